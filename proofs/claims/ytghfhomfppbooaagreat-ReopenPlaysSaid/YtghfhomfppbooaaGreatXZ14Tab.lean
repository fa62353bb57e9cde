import Derived.Test.YtghfhomfppbooaaGreatVie
import Derived.Test.YtghfhomfppbooaaGreatChecked
import Derived.KernelRfl
set_option linter.unusedSimpArgs false
set_option linter.unusedVariables false
set_option maxRecDepth 20000
set_option maxHeartbeats 16000000
namespace Go.Proofs.YtghfhomfppbooaaGreat
open Go.Vi
set_option maxRecDepth 100000
set_option maxHeartbeats 16000000
noncomputable section
def HT:List (Nat × Ann):=[
 (4,⟨[(14,1,9),(15,1,9)],[],false,false⟩),
 (5,⟨[],[[3,6,8,9]],false,false⟩),
 (7,⟨[],[[1,3]],false,false⟩),
 (8,⟨[],[[1,3]],false,false⟩),
 (9,⟨[(5,3,9),(6,3,9)],[],false,false⟩),
 (10,⟨[(6,1,8),(10,2,8),(12,1,8),(14,1,8)],[],false,false⟩),
 (11,⟨[(23,2,9)],[[1,2,6,7,11,12,14]],false,false⟩),
 (12,⟨[],[[2,3,5]],false,false⟩),
 (16,⟨[],[[1,2,4,6],[1,2,4,6,7,8]],false,false⟩),
 (17,⟨[],[[0,1,5]],false,false⟩),
 (18,⟨[(0,1,2)],[[1,2,5,7]],false,false⟩),
 (19,⟨[(1,0,103)],[[1,2,4,5,6]],false,false⟩),
 (23,⟨[],[[0,11,12,13]],false,false⟩),
 (24,⟨[(5,2,9),(3,2,8),(5,3,8)],[],false,false⟩),
 (25,⟨[(6,1,8),(11,2,8)],[[0,29,30]],false,false⟩),
 (29,⟨[(19,1,9),(4,0,101)],[[0,2,4,7,8],[0,2,4,8,12,13]],false,false⟩),
 (32,⟨[(0,2,2),(1,0,103),(8,0,2),(11,0,2)],[[2,3,7,8,9]],false,false⟩),
 (34,⟨[],[[1,2,4,6,7],[1,2,4,6,7,8,9]],false,false⟩),
 (37,⟨[],[[2,3,5]],false,false⟩),
 (38,⟨[],[[0,1,4,6,8]],false,false⟩),
 (39,⟨[(0,2,2)],[],false,false⟩),
 (40,⟨[(0,0,2),(3,0,2),(4,0,102),(9,0,2),(12,0,2),(16,0,2),(15,6,9)],[[0,4,5,7,8]],false,false⟩),
 (42,⟨[(0,0,102),(3,0,102),(2,3,2)],[[0,1,5,6],[0,1,5,7]],false,false⟩),
 (44,⟨[(12,3,9)],[],false,false⟩),
 (48,⟨[(1,2,8)],[],false,false⟩),
 (49,⟨[(0,1,2)],[[3,11,12,13]],false,false⟩),
 (50,⟨[(1,2,8)],[],false,false⟩),
 (51,⟨[(1,2,8)],[],false,false⟩),
 (53,⟨[(6,1,8),(7,1,8),(9,2,8),(10,1,8),(11,1,8),(12,1,8)],[],false,false⟩),
 (54,⟨[],[[2,3,18,19,20]],false,false⟩),
 (55,⟨[(15,6,9),(5,1,8),(6,1,8),(11,3,8),(13,1,8),(14,1,8)],[[2,7,8,35,36]],false,false⟩),
 (56,⟨[(7,15,9)],[],false,false⟩),
 (58,⟨[(1,3,8)],[],false,false⟩),
 (59,⟨[(1,2,8)],[],false,false⟩),
 (60,⟨[],[[1,2,5]],false,false⟩),
 (61,⟨[(5,2,9)],[],false,false⟩),
 (63,⟨[],[[0,1,7,8,9]],false,false⟩),
 (64,⟨[],[[1,4,5]],false,false⟩),
 (65,⟨[],[[0,3,4]],false,false⟩),
 (66,⟨[],[[1,5,6],[1,5,6,7]],false,false⟩),
 (67,⟨[(0,0,2)],[],false,false⟩),
 (68,⟨[(0,1,2),(1,0,101)],[[1,3,4]],false,false⟩),
 (71,⟨[(0,1,103)],[[0,3,5]],false,false⟩),
 (73,⟨[(18,2,9)],[[3,6,8,12,13,14,15]],false,false⟩),
 (75,⟨[],[[0,3]],false,false⟩),
 (79,⟨[],[[1,2,3,4]],false,false⟩),
 (83,⟨[],[[1,3,4]],false,false⟩),
 (84,⟨[],[[0,1,2,8,9,10]],false,false⟩),
 (86,⟨[(3,3,0),(4,2,8),(3,2,8)],[],false,false⟩),
 (87,⟨[(3,4,8),(0,0,2),(2,0,2),(3,5,2)],[],false,false⟩),
 (88,⟨[],[],true,true⟩),
 (91,⟨[(1,3,8)],[],false,false⟩),
 (92,⟨[],[[0,1,5,6]],false,false⟩),
 (93,⟨[],[[1,4,19,20,21]],false,false⟩),
 (94,⟨[(1,2,8)],[],false,false⟩),
 (96,⟨[(1,3,8)],[],false,false⟩),
 (97,⟨[(2,2,8)],[],false,false⟩),
 (98,⟨[(1,2,8)],[],false,false⟩),
 (100,⟨[(1,3,8)],[],false,false⟩),
 (101,⟨[(11,3,9)],[],false,false⟩),
 (103,⟨[],[[0,3,25]],false,false⟩),
 (104,⟨[],[[1,3,27,28,29]],false,false⟩),
 (106,⟨[],[[3,6,7,8]],false,false⟩),
 (107,⟨[(5,1,8),(0,0,2),(2,0,2)],[],false,false⟩),
 (108,⟨[(0,0,2),(2,0,2),(4,0,2)],[],false,false⟩),
 (109,⟨[(0,0,2),(2,0,2)],[],false,false⟩),
 (110,⟨[],[[0,1,5]],false,false⟩),
 (111,⟨[],[[0,3]],false,false⟩),
 (112,⟨[],[[1,3]],false,false⟩),
 (114,⟨[(0,0,2),(0,1,2),(2,0,2),(2,1,2),(3,0,103),(4,0,101)],[[0,1,8,9,10]],false,false⟩),
 (115,⟨[(0,0,2),(1,0,103)],[[0,1,5,6]],false,false⟩),
 (116,⟨[],[[0,1,2,7]],false,false⟩),
 (117,⟨[],[[0,3,4]],false,false⟩),
 (120,⟨[],[],true,true⟩),
 (121,⟨[(5,5,8),(0,0,2),(2,0,2),(4,0,2),(5,6,2)],[],false,false⟩),
 (123,⟨[],[],true,true⟩),
 (124,⟨[],[[0,3,9,10]],false,false⟩),
 (125,⟨[(4,4,9)],[],false,false⟩),
 (128,⟨[(0,0,2),(2,0,2),(4,0,2)],[],false,false⟩),
 (129,⟨[],[[3,7,8,9]],false,false⟩),
 (131,⟨[(8,2,8),(7,4,8),(12,4,8),(0,0,2),(2,0,2),(4,0,2),(12,5,2)],[],false,false⟩),
 (132,⟨[],[[0,8,9]],false,false⟩),
 (133,⟨[],[[0,1,7,8]],false,false⟩),
 (135,⟨[],[[1,5,6,12,13]],false,false⟩),
 (143,⟨[],[[0,1,4],[0,1,2,3,4,9]],false,false⟩),
 (144,⟨[(11,2,20)],[[0,1]],false,false⟩),
 (146,⟨[],[[0,3,4]],false,false⟩),
 (147,⟨[],[[0,3,4]],false,false⟩),
 (152,⟨[],[[0,2,3]],false,false⟩),
 (153,⟨[],[],false,false⟩)]
noncomputable abbrev kS (f:Nat):Option AF:=compS Tryz.prog f (tN HT f)
noncomputable abbrev nL (f k:Nat) (xs:List AC):AC:=nmL Tryz.prog f (tN HT f) k xs
noncomputable abbrev nF (f:Nat) (xs:List AC):AF:=OP Tryz.prog f (tN HT f) xs
def a3:AF:=nf (c:=nF 3 [])
theorem s3:kS 3=some a3:=by kernel_rfl
def a4:AF:=nf (c:=nF 4 [])
theorem s4:kS 4=some a4:=by kernel_rfl
def MF:AC:=nf (c:=nL 5 0 [])
def a5:AF:=(nf (c:=fun x=>nF 5 [x])) MF
theorem s5:kS 5=some a5:=by kernel_rfl
def a6:AF:=nf (c:=nF 6 [])
theorem s6:kS 6=some a6:=by kernel_rfl
def Mb:AC:=nf (c:=nL 7 0 [])
def a7:AF:=(nf (c:=fun x=>nF 7 [x])) Mb
theorem s7:kS 7=some a7:=by kernel_rfl
def a9:AF:=nf (c:=nF 9 [])
theorem s9:kS 9=some a9:=by kernel_rfl
def a10:AF:=nf (c:=nF 10 [])
theorem Pg:kS 10=some a10:=by kernel_rfl
def ib:AC:=nf (c:=nL 11 0 [])
def qR:AF:=(nf (c:=fun x=>nF 11 [x])) ib
theorem N4:kS 11=some qR:=by kernel_rfl
def Ea:AC:=nf (c:=nL 12 0 [])
def NQ:AF:=(nf (c:=fun x=>nF 12 [x])) Ea
theorem Ob:kS 12=some NQ:=by kernel_rfl
def LB:AF:=nf (c:=nF 13 [])
theorem Me:kS 13=some LB:=by kernel_rfl
def Ng:AF:=nf (c:=nF 14 [])
theorem Ph:kS 14=some Ng:=by kernel_rfl
def Mk:AF:=nf (c:=nF 15 [])
theorem OC:kS 15=some Mk:=by kernel_rfl
def wR:AC:=nf (c:=nL 16 1 [])
def Ei:AC:=(nf (c:=fun y=>nL 16 0 [.skip,y])) wR
def LA:AF:=(nf (c:=fun x y=>nF 16 [x,y])) Ei wR
theorem On:kS 16=some LA:=by kernel_rfl
def DI:AC:=nf (c:=nL 18 0 [])
def LM:AF:=(nf (c:=fun x=>nF 18 [x])) DI
theorem Oy:kS 18=some LM:=by kernel_rfl
def sb:AC:=nf (c:=nL 19 0 [])
def Mc:AF:=(nf (c:=fun x=>nF 19 [x])) sb
theorem OY:kS 19=some Mc:=by kernel_rfl
def LH:AF:=nf (c:=nF 20 [])
theorem N6:kS 20=some LH:=by kernel_rfl
def F7:AF:=nf (c:=nF 21 [])
theorem KP:kS 21=some F7:=by kernel_rfl
def Lt:AF:=nf (c:=nF 22 [])
theorem Ot:kS 22=some Lt:=by kernel_rfl
def pg:AC:=nf (c:=nL 23 0 [])
def Ll:AF:=(nf (c:=fun x=>nF 23 [x])) pg
theorem NE:kS 23=some Ll:=by kernel_rfl
def a24:AF:=nf (c:=nF 24 [])
theorem Oe:kS 24=some a24:=by kernel_rfl
def o5:AC:=nf (c:=nL 25 0 [])
def KN:AF:=(nf (c:=fun x=>nF 25 [x])) o5
theorem Om:kS 25=some KN:=by kernel_rfl
def LG:AF:=nf (c:=nF 26 [])
theorem Nb:kS 26=some LG:=by kernel_rfl
def Nd:AF:=nf (c:=nF 27 [])
theorem OX:kS 27=some Nd:=by kernel_rfl
def M1:AF:=nf (c:=nF 28 [])
theorem O7:kS 28=some M1:=by kernel_rfl
def dy:AC:=nf (c:=nL 29 1 [])
def ft:AC:=(nf (c:=fun y=>nL 29 0 [.skip,y])) dy
def oB:AF:=(nf (c:=fun x y=>nF 29 [x,y])) ft dy
theorem NH:kS 29=some oB:=by kernel_rfl
def NX:AF:=nf (c:=nF 30 [])
theorem O2:kS 30=some NX:=by kernel_rfl
def Nt:AF:=nf (c:=nF 31 [])
theorem N2:kS 31=some Nt:=by kernel_rfl
def rU:AC:=nf (c:=nL 32 0 [])
def LJ:AF:=(nf (c:=fun x=>nF 32 [x])) rU
theorem Oo:kS 32=some LJ:=by kernel_rfl
def Ni:AF:=nf (c:=nF 33 [])
theorem Oq:kS 33=some Ni:=by kernel_rfl
def pj:AC:=nf (c:=nL 34 1 [])
def tj:AC:=(nf (c:=fun y=>nL 34 0 [.skip,y])) pj
def MT:AF:=(nf (c:=fun x y=>nF 34 [x,y])) tj pj
theorem Ox:kS 34=some MT:=by kernel_rfl
def Kn:AF:=nf (c:=nF 35 [])
theorem OZ:kS 35=some Kn:=by kernel_rfl
def L0:AF:=nf (c:=nF 36 [])
theorem Of:kS 36=some L0:=by kernel_rfl
def EX:AC:=nf (c:=nL 37 0 [])
def NN:AF:=(nf (c:=fun x=>nF 37 [x])) EX
theorem OD:kS 37=some NN:=by kernel_rfl
def px:AC:=nf (c:=nL 38 0 [])
def LD:AF:=(nf (c:=fun x=>nF 38 [x])) px
theorem Ov:kS 38=some LD:=by kernel_rfl
def Nq:AF:=nf (c:=nF 39 [])
theorem Pj:kS 39=some Nq:=by kernel_rfl
def pd:AC:=nf (c:=nL 40 0 [])
def JU:AF:=(nf (c:=fun x=>nF 40 [x])) pd
theorem OH:kS 40=some JU:=by kernel_rfl
def LQ:AF:=nf (c:=nF 41 [])
theorem OV:kS 41=some LQ:=by kernel_rfl
def iY:AC:=nf (c:=nL 42 1 [])
def sI:AC:=(nf (c:=fun y=>nL 42 0 [.skip,y])) iY
def DL:AF:=(nf (c:=fun x y=>nF 42 [x,y])) sI iY
theorem N9:kS 42=some DL:=by kernel_rfl
def K9:AF:=nf (c:=nF 43 [])
theorem Ow:kS 43=some K9:=by kernel_rfl
def HO:AF:=nf (c:=nF 44 [])
theorem OF:kS 44=some HO:=by kernel_rfl
def M5:AF:=nf (c:=nF 45 [])
theorem Og:kS 45=some M5:=by kernel_rfl
def J9:AF:=nf (c:=nF 46 [])
theorem OT:kS 46=some J9:=by kernel_rfl
def NT:AF:=nf (c:=nF 47 [])
theorem OR:kS 47=some NT:=by kernel_rfl
def LZ:AF:=nf (c:=nF 48 [])
theorem Nz:kS 48=some LZ:=by kernel_rfl
def Ed:AC:=nf (c:=nL 49 0 [])
def M0:AF:=(nf (c:=fun x=>nF 49 [x])) Ed
theorem NY:kS 49=some M0:=by kernel_rfl
def NA:AF:=nf (c:=nF 50 [])
theorem OB:kS 50=some NA:=by kernel_rfl
def NO:AF:=nf (c:=nF 51 [])
theorem OQ:kS 51=some NO:=by kernel_rfl
def NV:AF:=nf (c:=nF 52 [])
theorem O0:kS 52=some NV:=by kernel_rfl
def GZ:AF:=nf (c:=nF 53 [])
theorem N3:kS 53=some GZ:=by kernel_rfl
def C9:AC:=nf (c:=nL 54 0 [])
def NJ:AF:=(nf (c:=fun x=>nF 54 [x])) C9
theorem O3:kS 54=some NJ:=by kernel_rfl
def o6:AC:=nf (c:=nL 55 0 [])
def Hv:AF:=(nf (c:=fun x=>nF 55 [x])) o6
theorem Nk:kS 55=some Hv:=by kernel_rfl
def J0:AF:=nf (c:=nF 56 [])
theorem OM:kS 56=some J0:=by kernel_rfl
def CX:AF:=nf (c:=nF 57 [])
theorem Lv:kS 57=some CX:=by kernel_rfl
def NG:AF:=nf (c:=nF 58 [])
theorem OI:kS 58=some NG:=by kernel_rfl
def NB:AF:=nf (c:=nF 59 [])
theorem O1:kS 59=some NB:=by kernel_rfl
def AB:AC:=nf (c:=nL 60 0 [])
def NC:AF:=(nf (c:=fun x=>nF 60 [x])) AB
theorem Ou:kS 60=some NC:=by kernel_rfl
def Lq:AF:=nf (c:=nF 61 [])
theorem Od:kS 61=some Lq:=by kernel_rfl
def FK:AF:=nf (c:=nF 62 [])
theorem N0:kS 62=some FK:=by kernel_rfl
def pa:AC:=nf (c:=nL 63 0 [])
def Mq:AF:=(nf (c:=fun x=>nF 63 [x])) pa
theorem OW:kS 63=some Mq:=by kernel_rfl
def D3:AC:=nf (c:=nL 64 0 [])
def MS:AF:=(nf (c:=fun x=>nF 64 [x])) D3
theorem Nr:kS 64=some MS:=by kernel_rfl
def C6:AC:=nf (c:=nL 65 0 [])
def Nu:AF:=(nf (c:=fun x=>nF 65 [x])) C6
theorem N7:kS 65=some Nu:=by kernel_rfl
def ww:AC:=nf (c:=nL 66 1 [])
def Em:AC:=(nf (c:=fun y=>nL 66 0 [.skip,y])) ww
def NR:AF:=(nf (c:=fun x y=>nF 66 [x,y])) Em ww
theorem OA:kS 66=some NR:=by kernel_rfl
def Nl:AF:=nf (c:=nF 67 [])
theorem Oc:kS 67=some Nl:=by kernel_rfl
def EY:AC:=nf (c:=nL 68 0 [])
def MX:AF:=(nf (c:=fun x=>nF 68 [x])) EY
theorem N1:kS 68=some MX:=by kernel_rfl
def MK:AF:=nf (c:=nF 69 [])
theorem OE:kS 69=some MK:=by kernel_rfl
def JX:AF:=nf (c:=nF 70 [])
theorem Pe:kS 70=some JX:=by kernel_rfl
def Ae:AC:=nf (c:=nL 71 0 [])
def No:AF:=(nf (c:=fun x=>nF 71 [x])) Ae
theorem OU:kS 71=some No:=by kernel_rfl
def Nf:AF:=nf (c:=nF 72 [])
theorem OJ:kS 72=some Nf:=by kernel_rfl
def sY:AC:=nf (c:=nL 73 0 [])
def Ey:AF:=(nf (c:=fun x=>nF 73 [x])) sY
theorem Nm:kS 73=some Ey:=by kernel_rfl
def ML:AF:=nf (c:=nF 74 [])
theorem O6:kS 74=some ML:=by kernel_rfl
def rD:AC:=nf (c:=nL 75 0 [])
def LP:AF:=(nf (c:=fun x=>nF 75 [x])) rD
theorem O5:kS 75=some LP:=by kernel_rfl
def Ma:AF:=nf (c:=nF 76 [])
theorem Pf:kS 76=some Ma:=by kernel_rfl
def Lx:AF:=nf (c:=nF 77 [])
theorem OO:kS 77=some Lx:=by kernel_rfl
def yJ:AF:=nf (c:=nF 78 [])
theorem OK:kS 78=some yJ:=by kernel_rfl
def wN:AC:=nf (c:=nL 79 0 [])
def NP:AF:=(nf (c:=fun x=>nF 79 [x])) wN
theorem ON:kS 79=some NP:=by kernel_rfl
def Ks:AF:=nf (c:=nF 80 [])
theorem Pc:kS 80=some Ks:=by kernel_rfl
def LC:AF:=nf (c:=nF 81 [])
theorem Oj:kS 81=some LC:=by kernel_rfl
def Ny:AF:=nf (c:=nF 82 [])
theorem O8:kS 82=some Ny:=by kernel_rfl
def DJ:AC:=nf (c:=nL 83 0 [])
def Nv:AF:=(nf (c:=fun x=>nF 83 [x])) DJ
theorem N5:kS 83=some Nv:=by kernel_rfl
def ls:AC:=nf (c:=nL 84 0 [])
def Nc:AF:=(nf (c:=fun x=>nF 84 [x])) ls
theorem Nw:kS 84=some Nc:=by kernel_rfl
def LF:AF:=nf (c:=nF 85 [])
theorem Oz:kS 85=some LF:=by kernel_rfl
def xj:AF:=nf (c:=nF 86 [])
theorem LY:kS 86=some xj:=by kernel_rfl
def LS:AF:=nf (c:=nF 87 [])
theorem NW:kS 87=some LS:=by kernel_rfl
def KY:AF:=nf (c:=nF 89 [])
theorem Ns:kS 89=some KY:=by kernel_rfl
def Nn:AF:=nf (c:=nF 90 [])
theorem Oh:kS 90=some Nn:=by kernel_rfl
def Nj:AF:=nf (c:=nF 91 [])
theorem Pb:kS 91=some Nj:=by kernel_rfl
def Fm:AC:=nf (c:=nL 92 0 [])
def Nx:AF:=(nf (c:=fun x=>nF 92 [x])) Fm
theorem Oa:kS 92=some Nx:=by kernel_rfl
def CU:AC:=nf (c:=nL 93 0 [])
def L7:AF:=(nf (c:=fun x=>nF 93 [x])) CU
theorem NI:kS 93=some L7:=by kernel_rfl
def Np:AF:=nf (c:=nF 94 [])
theorem Pd:kS 94=some Np:=by kernel_rfl
def ND:AF:=nf (c:=nF 95 [])
theorem NZ:kS 95=some ND:=by kernel_rfl
def NU:AF:=nf (c:=nF 96 [])
theorem O4:kS 96=some NU:=by kernel_rfl
def LI:AF:=nf (c:=nF 97 [])
theorem OG:kS 97=some LI:=by kernel_rfl
def NS:AF:=nf (c:=nF 98 [])
theorem Oi:kS 98=some NS:=by kernel_rfl
def NK:AF:=nf (c:=nF 99 [])
theorem Ol:kS 99=some NK:=by kernel_rfl
def Ld:AF:=nf (c:=nF 100 [])
theorem L3:kS 100=some Ld:=by kernel_rfl
def xd:AF:=nf (c:=nF 101 [])
theorem MZ:kS 101=some xd:=by kernel_rfl
def Gj:AF:=nf (c:=nF 102 [])
theorem Mx:kS 102=some Gj:=by kernel_rfl
def xG:AC:=nf (c:=nL 103 0 [])
def Ew:AF:=(nf (c:=fun x=>nF 103 [x])) xG
theorem Mr:kS 103=some Ew:=by kernel_rfl
def jf:AC:=nf (c:=nL 104 0 [])
def BY:AF:=(nf (c:=fun x=>nF 104 [x])) jf
theorem MN:kS 104=some BY:=by kernel_rfl
def Kq:AF:=nf (c:=nF 105 [])
theorem MB:kS 105=some Kq:=by kernel_rfl
def xC:AC:=nf (c:=nL 106 0 [])
def Lk:AF:=(nf (c:=fun x=>nF 106 [x])) xC
theorem ME:kS 106=some Lk:=by kernel_rfl
def I1:AF:=nf (c:=nF 107 [])
theorem L4:kS 107=some I1:=by kernel_rfl
def EE:AF:=nf (c:=nF 108 [])
theorem Fs:kS 108=some EE:=by kernel_rfl
def Iy:AF:=nf (c:=nF 109 [])
theorem KH:kS 109=some Iy:=by kernel_rfl
def qi:AC:=nf (c:=nL 110 0 [])
def Lm:AF:=(nf (c:=fun x=>nF 110 [x])) qi
theorem My:kS 110=some Lm:=by kernel_rfl
def yP:AC:=nf (c:=nL 111 0 [])
def KG:AF:=(nf (c:=fun x=>nF 111 [x])) yP
theorem Mw:kS 111=some KG:=by kernel_rfl
def gu:AC:=nf (c:=nL 112 0 [])
def Br:AF:=(nf (c:=fun x=>nF 112 [x])) gu
theorem L5:kS 112=some Br:=by kernel_rfl
def Lh:AF:=nf (c:=nF 113 [])
theorem L9:kS 113=some Lh:=by kernel_rfl
def oD:AC:=nf (c:=nL 114 0 [])
def Gv:AF:=(nf (c:=fun x=>nF 114 [x])) oD
theorem MH:kS 114=some Gv:=by kernel_rfl
def tQ:AC:=nf (c:=nL 115 0 [])
def Kl:AF:=(nf (c:=fun x=>nF 115 [x])) tQ
theorem Ms:kS 115=some Kl:=by kernel_rfl
def uR:AC:=nf (c:=nL 116 0 [])
def Ib:AF:=(nf (c:=fun x=>nF 116 [x])) uR
theorem LV:kS 116=some Ib:=by kernel_rfl
def xD:AC:=nf (c:=nL 117 0 [])
def JM:AF:=(nf (c:=fun x=>nF 117 [x])) xD
theorem Mj:kS 117=some JM:=by kernel_rfl
def HK:AF:=nf (c:=nF 118 [])
theorem Mg:kS 118=some HK:=by kernel_rfl
def F6:AF:=nf (c:=nF 119 [])
theorem MR:kS 119=some F6:=by kernel_rfl
def FP:AF:=nf (c:=nF 121 [])
theorem JP:kS 121=some FP:=by kernel_rfl
def Hb:AF:=nf (c:=nF 122 [])
theorem Mt:kS 122=some Hb:=by kernel_rfl
def xr:AC:=nf (c:=nL 124 0 [])
def K8:AF:=(nf (c:=fun x=>nF 124 [x])) xr
theorem Mf:kS 124=some K8:=by kernel_rfl
def IV:AF:=nf (c:=nF 125 [])
theorem Mv:kS 125=some IV:=by kernel_rfl
def Ko:AF:=nf (c:=nF 126 [])
theorem MU:kS 126=some Ko:=by kernel_rfl
def KF:AF:=nf (c:=nF 127 [])
theorem Ml:kS 127=some KF:=by kernel_rfl
def Cs:AF:=nf (c:=nF 128 [])
theorem JG:kS 128=some Cs:=by kernel_rfl
def xY:AC:=nf (c:=nL 129 0 [])
def La:AF:=(nf (c:=fun x=>nF 129 [x])) xY
theorem MO:kS 129=some La:=by kernel_rfl
def J7:AF:=nf (c:=nF 130 [])
theorem Mi:kS 130=some J7:=by kernel_rfl
def ER:AF:=nf (c:=nF 131 [])
theorem I0:kS 131=some ER:=by kernel_rfl
def ub:AC:=nf (c:=nL 132 0 [])
def IF:AF:=(nf (c:=fun x=>nF 132 [x])) ub
theorem Mp:kS 132=some IF:=by kernel_rfl
def kv:AC:=nf (c:=nL 133 0 [])
def K6:AF:=(nf (c:=fun x=>nF 133 [x])) kv
theorem LX:kS 133=some K6:=by kernel_rfl
def Jj:AF:=nf (c:=nF 134 [])
theorem LL:kS 134=some Jj:=by kernel_rfl
def yU:AC:=nf (c:=nL 135 0 [])
def KJ:AF:=(nf (c:=fun x=>nF 135 [x])) yU
theorem Mm:kS 135=some KJ:=by kernel_rfl
def FU:AF:=nf (c:=nF 136 [])
theorem Md:kS 136=some FU:=by kernel_rfl
def KU:AF:=nf (c:=nF 137 [])
theorem MA:kS 137=some KU:=by kernel_rfl
def Dz:AF:=nf (c:=nF 138 [])
theorem MC:kS 138=some Dz:=by kernel_rfl
def GY:AF:=nf (c:=nF 139 [])
theorem MJ:kS 139=some GY:=by kernel_rfl
def I9:AF:=nf (c:=nF 142 [])
theorem Mz:kS 142=some I9:=by kernel_rfl
def uW:AC:=nf (c:=nL 143 1 [])
def xW:AC:=(nf (c:=fun y=>nL 143 0 [.skip,y])) uW
def Ka:AF:=(nf (c:=fun x y=>nF 143 [x,y])) xW uW
theorem MG:kS 143=some Ka:=by kernel_rfl
def gZ:AC:=nf (c:=nL 144 0 [])
def Ja:AF:=(nf (c:=fun x=>nF 144 [x])) gZ
theorem Mo:kS 144=some Ja:=by kernel_rfl
def E9:AF:=nf (c:=nF 145 [])
theorem M4:kS 145=some E9:=by kernel_rfl
def xq:AC:=nf (c:=nL 146 0 [])
def I3:AF:=(nf (c:=fun x=>nF 146 [x])) xq
theorem LT:kS 146=some I3:=by kernel_rfl
def za:AC:=nf (c:=nL 147 0 [])
def Ih:AF:=(nf (c:=fun x=>nF 147 [x])) za
theorem MI:kS 147=some Ih:=by kernel_rfl
def tZ:AF:=nf (c:=nF 149 [])
theorem M8:kS 149=some tZ:=by kernel_rfl
def CZ:AF:=nf (c:=nF 150 [])
theorem M6:kS 150=some CZ:=by kernel_rfl
def C2:AF:=nf (c:=nF 151 [])
theorem MV:kS 151=some C2:=by kernel_rfl
def HE:AF:=nf (c:=nF 153 [])
theorem LO:kS 153=some HE:=by kernel_rfl
end
def lib:Lib:=⟨[(120,3,40)],[(123,3,40)],[(88,3)]⟩
noncomputable abbrev call:bL:=cV (cz Tryz.prog (tN HT)) (j7 lib)
theorem Is (rows:List (List D)) (h1:aQ 3 rows=true) (h2:rows.length*40<=140737488355328) (h3:rows.length<=9223372036854775807) (H:Hp):az call 120 [.one (.d (.l rows))] H=some (.one (.sl (H.length+1) 3 0 rows.length),H++[.dead,.arr 3 rows 0]):=wV rfl rfl rfl rfl rows h1 h2 h3 H
end Go.Proofs.YtghfhomfppbooaaGreat
