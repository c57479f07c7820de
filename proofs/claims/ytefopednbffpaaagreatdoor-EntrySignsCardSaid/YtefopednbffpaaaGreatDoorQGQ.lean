/- Parts. No condition. -/
import Derived.KernelRfl
import Derived.Test.YtefopednbffpaaaGreatDoorQGP
set_option linter.all false
namespace Go.Proofs.YtefopednbffpaaaGreatDoor.am
open Go
open Decidable renaming decide->ck
open Go.Proofs.YtefopednbffpaaaGreatDoor.am renaming bn->H
noncomputable section
set_option maxRecDepth 100000
set_option maxHeartbeats 0
def aGi:ay 93=some ⟨75,mv [ee 2 (q_b 20 0),ee 3 (q_b 20 1),ee 4 (.alloc eY)] (.Q (.draw [(5,[.I .u64 0,.I .u64 0,.I .u64 0,.I .u64 0,.I .u64 0])] [H (eN 13 5 2) 0 0,H (ee 14 (dZ 5 13)) 0 0,H (eN 15 0 2) 0 0,H (ee 16 (dZ 5 15)) 0 0,m0 (ee 17 (qX 137 [14,16])) 0 1,H (eN 18 5 3) 0 1,H (ee 19 (dZ 5 18)) 0 1,H (eN 20 0 3) 0 1,H (ee 21 (dZ 5 20)) 0 1,m0 (ee 22 (qX 137 [19,21])) 1 2,m0 (ee 23 (qX 95 [17,22])) 2 3,m0 (HK (HM 5 5 23)) 3 4]) (.Q (.draw [(6,[.I .u64 0,.I .u64 0,.I .u64 0,.I .u64 0,.I .u64 0])] [H (eN 24 5 2) 0 0,H (ee 25 (dZ 5 24)) 0 0,H (eN 26 0 2) 0 0,H (ee 27 (dZ 5 26)) 0 0,m0 (ee 28 (qX 139 [25,27])) 0 1,H (eN 29 5 3) 0 1,H (ee 30 (dZ 5 29)) 0 1,H (eN 31 0 3) 0 1,H (ee 32 (dZ 5 31)) 0 1,m0 (ee 33 (qX 139 [30,32])) 1 2,m0 (ee 34 (qX 95 [28,33])) 2 3,m0 (HK (HM 5 6 34)) 3 4]) (.Q (.draw [(7,[.I .u64 0,.I .u64 0,.I .u64 0,.I .u64 0,.I .u64 0])] [H (eN 35 15 2) 0 1,H (ee 36 (dZ 5 35)) 0 1,m0 (ee 37 (qX 171 [])) 0 1,m0 (ee 38 (qX 95 [36,37])) 1 2,H (eN 39 15 3) 0 2,H (ee 40 (dZ 5 39)) 0 2,m0 (ee 41 (qX 95 [38,40])) 2 3,m0 (HK (HM 5 7 41)) 3 4]) (.Q (.draw [(8,[.I .u64 0,.I .u64 0,.I .u64 0,.I .u64 0,.I .u64 0])] [H (eN 42 10 2) 0 0,H (ee 43 (dZ 5 42)) 0 0,H (eN 44 10 2) 0 0,H (ee 45 (dZ 5 44)) 0 0,m0 (ee 46 (qX 139 [43,45])) 0 1,H (eN 47 10 3) 0 1,H (ee 48 (dZ 5 47)) 0 1,m0 (ee 49 (qX 95 [46,48])) 1 2,m0 (HK (HM 5 8 49)) 2 3]) (.Q (.draw [(9,[.I .u64 0,.I .u64 0,.I .u64 0,.I .u64 0,.I .u64 0]),(10,[.I .u64 0,.I .u64 0,.I .u64 0,.I .u64 0,.I .u64 0]),(11,[.I .u64 0,.I .u64 0,.I .u64 0,.I .u64 0,.I .u64 0]),(12,[.I .u64 0,.I .u64 0,.I .u64 0,.I .u64 0,.I .u64 0])] [H (ee 50 (dZ 5 6)) 0 0,H (ee 51 (dZ 5 5)) 0 0,m0 (ee 52 (qX 137 [50,51])) 0 1,H (ee 53 (dZ 5 8)) 0 1,H (ee 54 (dZ 5 7)) 0 1,m0 (ee 55 (qX 137 [53,54])) 1 2,H (ee 56 (dZ 5 8)) 0 2,H (ee 57 (dZ 5 7)) 0 2,m0 (ee 58 (qX 139 [56,57])) 2 3,H (ee 59 (dZ 5 6)) 0 3,H (ee 60 (dZ 5 5)) 0 3,m0 (ee 61 (qX 139 [59,60])) 3 4,m0 (HK (HM 5 9 52)) 4 5,m0 (HK (HM 5 10 55)) 5 6,m0 (HK (HM 5 11 58)) 6 7,m0 (HK (HM 5 12 61)) 7 8]) (.Q (.draw [] [H (ee 62 (dZ 5 9)) 0 0,H (ee 63 (dZ 5 10)) 0 0,m0 (ee 64 (qX 95 [62,63])) 0 1,H (ee 65 (dZ 5 11)) 0 1,H (ee 66 (dZ 5 12)) 0 1,m0 (ee 67 (qX 95 [65,66])) 1 2,H (ee 68 (dZ 5 10)) 0 2,H (ee 69 (dZ 5 11)) 0 2,m0 (ee 70 (qX 95 [68,69])) 2 3,H (ee 71 (dZ 5 9)) 0 3,H (ee 72 (dZ 5 12)) 0 3,m0 (ee 73 (qX 95 [71,72])) 3 4,H (cG 74 (.bld eY [(0,5,.t 64),(5,5,.t 67),(10,5,.t 70),(15,5,.t 73)])) 4 4,m0 (HK (HM 20 4 74)) 4 5]) (Jz [4]))))))),[.C 4 (.A 20)]⟩:=(li Tryz.func93 rfl).trans (by kernel_rfl)
def aBO:=(li Tryz.func94 rfl).trans (by cbv)
def aF7:=(by have h:=aBO;rewrite [<-gY.eq_1]at h;exact h:ay 94=_)
def adt:=(li Tryz.func95 rfl).trans (by cbv)
def mF:KC:=ku (ay 95) 0
def cz:=(by have h:=(dK adt 0).trans (by cbv);exact h:mF=_)
def uv:KC:=ku (ay 95) 1
def nm:=(by have h:=(dK adt 1).trans (by cbv);rewrite [<-cz]at h;exact h:uv=_)
def A0:KC:=ku (ay 95) 2
def nv:=(by have h:=(dK adt 2).trans (by cbv);exact h:A0=_)
def aF2:=(by have h:=adt;rewrite [<-YF.eq_1,<-gY.eq_1,<-cz,<-nm,<-nv]at h;exact h:ay 95=_)
def ajG:=(li Tryz.func96 rfl).trans (by cbv)
def yq:KC:=ku (ay 96) 0
def eL:=(by have h:=(dK ajG 0).trans (by cbv);exact h:yq=_)
def jj:KC:=ku (ay 96) 1
def cZ:=(by have h:=(dK ajG 1).trans (by cbv);rewrite [<-eL]at h;exact h:jj=_)
def aF0:=(by have h:=ajG;rewrite [<-aK.eq_1,<-eL,<-cZ]at h;exact h:ay 96=_)
def aGx:=(li Tryz.func97 rfl).trans (by cbv)
def aHq:=(li Tryz.func98 rfl).trans (by cbv)
def aHr:=(li Tryz.func99 rfl).trans (by cbv)
def azb:=(li Tryz.func100 rfl).trans (by cbv)
def ats:=(li Tryz.func101 rfl).trans (by cbv)
def aBP:=(by have h:=ats;rewrite [<-fV.eq_1]at h;exact h:ay 101=_)
def abx:=(li Tryz.func102 rfl).trans (by cbv)
def Ha:KC:=ku (ay 102) 0
def qi:=(by have h:=(dK abx 0).trans (by cbv);rewrite [<-pk.eq_1,<-ah.eq_1]at h;exact h:Ha=_)
def Hb:KC:=ku (ay 102) 1
def kW:=(by have h:=(dK abx 1).trans (by cbv);rewrite [<-aE.eq_1]at h;exact h:Hb=_)
def aBQ:=(by have h:=abx;rewrite [<-aE.eq_1,<-pk.eq_1,<-ah.eq_1,<-qi,<-kW]at h;exact h:ay 102=_)
def att:=(li Tryz.func103 rfl).trans (by cbv)
def aBR:=(by have h:=att;rewrite [<-aK.eq_1]at h;exact h:ay 103=_)
def aBS:=(li Tryz.func104 rfl).trans (by cbv)
def aby:=(li Tryz.func105 rfl).trans (by cbv)
def vZ:KC:=ku (ay 105) 0
def iE:=(by have h:=(dK aby 0).trans (by cbv);exact h:vZ=_)
def v8:KC:=ku (ay 105) 1
def j7:=(by have h:=(dK aby 1).trans (by cbv);rewrite [<-iE]at h;exact h:v8=_)
def aBT:=(by have h:=aby;rewrite [<-cS.eq_1,<-iE,<-j7]at h;exact h:ay 105=_)
def ajH:=(li Tryz.func106 rfl).trans (by cbv)
def Hc:KC:=ku (ay 106) 0
def mL:=(by have h:=(dK ajH 0).trans (by cbv);exact h:Hc=_)
def aBU:=(by have h:=ajH;rewrite [<-mL]at h;exact h:ay 106=_)
def ajI:=(li Tryz.func107 rfl).trans (by cbv)
def my:KC:=ku (ay 107) 0
def ja:=(by have h:=(dK ajI 0).trans (by cbv);exact h:my=_)
def aqx:=(by have h:=ajI;rewrite [<-ja]at h;exact h:ay 107=_)
def ajJ:=(li Tryz.func108 rfl).trans (by cbv)
def v9:KC:=ku (ay 108) 0
def j8:=(by have h:=(dK ajJ 0).trans (by cbv);exact h:v9=_)
def aBV:=(by have h:=ajJ;rewrite [<-aK.eq_1,<-j8]at h;exact h:ay 108=_)
def atu:=(li Tryz.func109 rfl).trans (by cbv)
def aqy:=(by have h:=atu;rewrite [<-fV.eq_1]at h;exact h:ay 109=_)
def aBW:=(li Tryz.func110 rfl).trans (by cbv)
def atv:=(li Tryz.func111 rfl).trans (by cbv)
def aBX:=(by have h:=atv;rewrite [<-fV.eq_1]at h;exact h:ay 111=_)
def aBY:=(li Tryz.func112 rfl).trans (by cbv)
def aBZ:=(li Tryz.func113 rfl).trans (by cbv)
def ajK:=(li Tryz.func114 rfl).trans (by cbv)
def IT:KC:=ku (ay 114) 0
def rq:=(by have h:=(dK ajK 0).trans (by cbv);rewrite [<-fV.eq_1]at h;exact h:IT=_)
def aB0:=(by have h:=ajK;rewrite [<-fV.eq_1,<-rq]at h;exact h:ay 114=_)
def atw:=(li Tryz.func115 rfl).trans (by cbv)
def aB1:=(by have h:=atw;rewrite [<-ah.eq_1]at h;exact h:ay 115=_)
def ajL:=(li Tryz.func116 rfl).trans (by cbv)
def Sg:List KO:=xF (ay 116) 15
def oQ:=(by have h:=(m7 ajL 15).trans (by cbv);rewrite [<-fV.eq_1]at h;exact h:Sg=_)
def YG:=(by have h:=ajL;rewrite [<-aE.eq_1,<-fV.eq_1,<-oQ]at h;exact h:ay 116=_)
def aB2:=(li Tryz.func117 rfl).trans (by cbv)
def ajM:=(li Tryz.func118 rfl).trans (by cbv)
def N3:KC:=ku (ay 118) 0
def py:=(by have h:=(dK ajM 0).trans (by cbv);rewrite [<-fV.eq_1]at h;exact h:N3=_)
def aB3:=(by have h:=ajM;rewrite [<-fV.eq_1,<-py]at h;exact h:ay 118=_)
def abz:=(li Tryz.func119 rfl).trans (by cbv)
def FB:List KO:=xF (ay 119) 4
def qj:=(by have h:=(m7 abz 4).trans (by cbv);exact h:FB=_)
def wW:KC:=ku (ay 119) 0
def jb:=(by have h:=(dK abz 0).trans (by cbv);rewrite [<-qj]at h;exact h:wW=_)
def aB4:=(by have h:=abz;rewrite [<-qj,<-jb]at h;exact h:ay 119=_)
def ajN:=(li Tryz.func120 rfl).trans (by cbv)
def v_:KC:=ku (ay 120) 0
def iF:=(by have h:=(dK ajN 0).trans (by cbv);exact h:v_=_)
def aB5:=(by have h:=ajN;rewrite [<-iF]at h;exact h:ay 120=_)
def qQ:List KO:=[eG 10 3,cG 11 (rS .lss 10 1),eG 12 11,NJ 13 12 3,p6 14 12 (rS .gtr 13 6),cG 15 (NL 12 14),eG 16 15,NJ 17 16 3,p6 18 16 (rS .neq 17 1),NJ 19 16 18,q_x 20 19 3,Dw 21 19 (rS .neq 20 2),p6 22 16 (q_P 19 21),NJ 23 16 22,Dw 24 23 (Bg 1 1),Td 25 23 (CH 24),Dw 26 23 (rS .neq 25 0),p6 27 16 (q_P 23 26),cG 28 (NL 16 27),eG 29 28,NJ 30 29 3,p6 31 29 (rS .neq 30 3),NJ 32 29 31,q_x 33 32 3,Dw 34 32 (rS .neq 33 4),p6 35 29 (q_P 32 34),NJ 36 29 35,Dw 37 36 (Bg 2 1),Td 38 36 (CH 37),Dw 39 36 (.RJ .neq (.t 38) (.c (.S []))),p6 40 29 (q_P 36 39),cG 41 (NL 29 40),eG 42 41,NJ 43 42 3,p6 44 42 (rS .neq 43 5),NJ 45 42 44,Dw 46 45 (Bg 3 1),Td 47 45 (CH 46),Dw 48 45 (ID 47),Dw 49 45 (rS .gtr 48 0),p6 50 42 (q_P 45 49),cG 51 (NL 42 50),eG 52 51,NJ 53 52 3,p6 54 52 (rS .neq 53 6),NJ 55 52 54,Dw 56 55 (Bg 4 1),Td 57 55 (CH 56),Dw 58 55 (ID 57),Dw 59 55 (rS .gtr 58 0),p6 60 52 (q_P 55 59),cG 61 (NL 52 60)]
def Ck:=qQ.eq_1
def qR:List KO:=[eG 62 3,cG 63 (rS .eql 62 1),eG 64 63,Dw 65 64 (Bg 1 1),Td 66 64 (CH 65),Dw 67 64 (rS .neq 66 0),cG 68 (q_P 64 67),eG 69 68,Dw 70 69 (Bg 1 1),Td 71 69 (CH 70),Dw 72 69 (rS .neq 71 1),cG 73 (q_P 69 72),eG 74 73,NJ 75 74 3,p6 76 74 (rS .eql 75 3),NJ 77 74 76,Dw 78 77 (Bg 2 1),Td 79 77 (CH 78),Dw 80 77 (q_S 79),Dw 81 77 (rS .gtr 80 64),p6 82 74 (q_P 77 81),cG 83 (NL 74 82),eG 84 83,NJ 85 84 3,p6 86 84 (rS .eql 85 4),NJ 87 84 86,Dw 88 87 (Bg 2 1),Td 89 87 (CH 88),Td 90 87 (qX 119 [89]),Dw 91 87 (q_U 90),p6 92 84 (q_P 87 91),cG 93 (NL 84 92),eG 94 93,p6 95 94 (Bg 3 1),Fm 96 94 (CH 95),p6 97 94 (ID 96),p6 98 94 (rS .gtr 97 8),cG 99 (NL 94 98),eG 100 99,p6 101 100 (Bg 4 1),Fm 102 100 (CH 101),p6 103 100 (ID 102),p6 104 100 (rS .gtr 103 12),cG 105 (NL 100 104),eG 106 105,p6 107 106 (Bg 5 1),Fm 108 106 (CH 107),p6 109 106 (ID 108),p6 110 106 (Bg 3 1),Fm 111 106 (CH 110),p6 112 106 (ID 111),p6 113 106 (Bg 4 1),Fm 114 106 (CH 113),p6 115 106 (ID 114),p6 116 106 (qB .add 112 115),p6 117 106 (qB .neq 109 116),cG 118 (NL 106 117)]
def Cl:=qR.eq_1
def wa:List KD:=[H (eN 126 3 1) 0 0,H (dF 127 126) 0 0,H (eG 128 4) 0 0,H (cG 129 (FK 1 127 128)) 0 0,H (dF 130 129) 0 0,m0 (ee 131 (qX 119 [130])) 0 1,H (cG 132 (q_U 131)) 1 1,H (eG 133 132) 1 1,H (NJ 134 133 4) 1 1,H (p6 135 133 (rS .gtr 134 0)) 1 1,H (NJ 136 133 135) 1 1,H (Dw 137 136 (Bg 3 1)) 1 1,H (Td 138 136 (CH 137)) 1 1,H (q_x 139 136 4) 1 1,H (Dw 140 136 (FK 1 138 139)) 1 1,H (Td 141 136 (CH 140)) 1 1,H (Dw 142 136 (Bg 3 1)) 1 1,H (Td 143 136 (CH 142)) 1 1,H (q_x 144 136 4) 1 1,H (Dw 145 136 (rS .sub 144 1)) 1 1,H (Dw 146 136 (FK 1 143 145)) 1 1,H (Td 147 136 (CH 146)) 1 1,H (Dw 148 136 (.RJ .leq (.t 141) (.t 147))) 1 1,H (p6 149 133 (q_P 136 148)) 1 1,H (cG 150 (NL 133 149)) 1 1]
def mW:=wa.eq_1
def qS:KC:=.dU [1,4] (.Q (mv [eG 119 4,eN 120 3 1,dF 121 120,cG 122 (ID 121),cG 123 (qB .lss 119 122)] (.cond (.t 123) .skip (.dU [1] (.exit 0)))) (.Q (.block 1 (.Q (.draw [] wa) (.dU [1,4,150] (uZ 150 (mv [cG 2 (wZ (.B false))] (Jz [2])))))) (.ops [eG 124 4,cG 125 (rS .add 124 1),eG 4 125])))
def j9:=qS.eq_1
def qT:KC:=.dU [1,5,6] (.Q (mv [eG 158 6,eG 159 5,cG 160 (qB .lss 158 159)] (.cond (.t 160) .skip (.dU [1,5] (.exit 4)))) (.Q (.block 5 (.Q (.draw [] [H (eN 163 4 1) 0 0,H (dF 164 163) 0 0,H (eG 165 5) 0 0,H (cG 166 (FK 1 164 165)) 0 0,H (dF 167 166) 0 0,H (eN 168 4 1) 0 0,H (dF 169 168) 0 0,H (eG 170 6) 0 0,H (cG 171 (FK 1 169 170)) 0 0,H (dF 172 171) 0 0,H (cG 173 (qB .eql 167 172)) 0 0]) (uZ 173 (mv [cG 2 (wZ (.B false))] (Jz [2]))))) (.ops [eG 161 6,cG 162 (rS .add 161 1),eG 6 162])))
def mX:=qT.eq_1
def qU:KC:=.dU [1,5] (.Q (mv [eG 151 5,eN 152 4 1,dF 153 152,cG 154 (ID 153),cG 155 (qB .lss 151 154)] (.cond (.t 155) .skip (.dU [1] (.exit 2)))) (.Q (.block 3 (.Q (mv [cG 6 (wZ (.I .i64 0))] (.block 4 (.L qT))) (mv [eN 174 4 1,dF 175 174,eG 176 5,cG 177 (FK 1 175 176),dF 178 177,cG 179 (.RI .eql (.t 178) (.c (.I .u64 0)))] (uZ 179 (mv [cG 2 (wZ (.B false))] (Jz [2])))))) (.ops [eG 156 5,cG 157 (rS .add 156 1),eG 5 157])))
def mY:=qU.eq_1
def qV:KC:=.dU [1,7] (.Q (mv [eG 180 7,eN 181 5 1,dF 182 181,cG 183 (ID 182),cG 184 (qB .lss 180 183)] (.cond (.t 184) .skip (.dU [] (.exit 6)))) (.Q (.block 7 (mv [eN 187 5 1,dF 188 187,eG 189 7,cG 190 (FK 6 188 189),ee 191 (dZ 6 190),ee 192 (qX 121 [191]),cG 193 (q_U 192)] (uZ 193 (mv [cG 2 (wZ (.B false))] (Jz [2]))))) (.ops [eG 185 7,cG 186 (rS .add 185 1),eG 7 186])))
def mZ:=qV.eq_1
def aB6:ay 121=some ⟨194,mv [ee 1 (q_b 6 0),cG 2 (wZ (.B false))] (mv [eN 8 0 1,dF 9 8,eG 3 9] (.Q (mv qQ (.dU [1,3,61] (uZ 61 (mv [cG 2 (wZ (.B false))] (Jz [2]))))) (.Q (mv qR (.dU [1,118] (uZ 118 (mv [cG 2 (wZ (.B false))] (Jz [2]))))) (.Q (mv [cG 4 (wZ (.I .i64 0))] (.block 0 (.L qS))) (.Q (mv [cG 5 (wZ (.I .i64 0))] (.block 2 (.L qU))) (.Q (mv [cG 7 (wZ (.I .i64 0))] (.block 6 (.L qV))) (mv [cG 2 (wZ (.B true))] (Jz [2])))))))),[.tmp 2]⟩:=(li Tryz.func121 rfl).trans (by kernel_rfl)
def azh:=(li Tryz.func122 rfl).trans (by cbv)
def azi:=(li Tryz.func123 rfl).trans (by cbv)
def azw:=(li Tryz.func124 rfl).trans (by cbv)
def azg:=(li Tryz.func125 rfl).trans (by cbv)
def aiI:=(li Tryz.func126 rfl).trans (by cbv)
def vE:KC:=ku (ay 126) 0
def gi:=(by have h:=(dK aiI 0).trans (by cbv);exact h:vE=_)
def azx:=(by have h:=aiI;rewrite [<-gi]at h;exact h:ay 126=_)
def azy:=(li Tryz.func127 rfl).trans (by cbv)
def aiJ:=(li Tryz.func128 rfl).trans (by cbv)
def vF:KC:=ku (ay 128) 0
def fe:=(by have h:=(dK aiJ 0).trans (by cbv);exact h:vF=_)
def azz:=(by have h:=aiJ;rewrite [<-fe]at h;exact h:ay 128=_)
def azA:=(li Tryz.func129 rfl).trans (by cbv)
def aiK:=(li Tryz.func130 rfl).trans (by cbv)
def vG:KC:=ku (ay 130) 0
def dV:=(by have h:=(dK aiK 0).trans (by cbv);exact h:vG=_)
def azB:=(by have h:=aiK;rewrite [<-dV]at h;exact h:ay 130=_)
def ayQ:=(li Tryz.func134 rfl).trans (by cbv)
def as5:=(li Tryz.func135 rfl).trans (by cbv)
def ayz:=(by have h:=as5;rewrite [<-gY.eq_1]at h;exact h:ay 135=_)
def as6:=(li Tryz.func136 rfl).trans (by cbv)
def TL:=(by have h:=as6;rewrite [<-gY.eq_1]at h;exact h:ay 136=_)
def aiL:=(li Tryz.func137 rfl).trans (by cbv)
def AZ:KC:=ku (ay 137) 0
def nj:=(by have h:=(dK aiL 0).trans (by cbv);exact h:AZ=_)
def ayj:=(by have h:=aiL;rewrite [<-gY.eq_1,<-nj]at h;exact h:ay 137=_)
def as7:=(li Tryz.func138 rfl).trans (by cbv)
def ayC:=(by have h:=as7;rewrite [<-aK.eq_1,<-gY.eq_1]at h;exact h:ay 138=_)
def aiM:=(li Tryz.func139 rfl).trans (by cbv)
def AY:KC:=ku (ay 139) 0
def ni:=(by have h:=(dK aiM 0).trans (by cbv);exact h:AY=_)
def ayh:=(by have h:=aiM;rewrite [<-gY.eq_1,<-ni]at h;exact h:ay 139=_)
def as8:=(li Tryz.func140 rfl).trans (by cbv)
def ay3:=(by have h:=as8;rewrite [<-gY.eq_1]at h;exact h:ay 140=_)
def as9:=(li Tryz.func141 rfl).trans (by cbv)
def ay4:=(by have h:=as9;rewrite [<-gY.eq_1]at h;exact h:ay 141=_)
def as_:=(li Tryz.func142 rfl).trans (by cbv)
def azC:=(by have h:=as_;rewrite [<-aK.eq_1]at h;exact h:ay 142=_)
def ata:=(li Tryz.func143 rfl).trans (by cbv)
def azl:=(by have h:=ata;rewrite [<-aK.eq_1]at h;exact h:ay 143=_)
def atb:=(li Tryz.func144 rfl).trans (by cbv)
def azD:=(by have h:=atb;rewrite [<-bw.eq_1]at h;exact h:ay 144=_)
def atc:=(li Tryz.func145 rfl).trans (by cbv)
def azE:=(by have h:=atc;rewrite [<-cK.eq_1]at h;exact h:ay 145=_)
def aiN:=(li Tryz.func146 rfl).trans (by cbv)
def vH:KC:=ku (ay 146) 0
def jX:=(by have h:=(dK aiN 0).trans (by cbv);exact h:vH=_)
def azF:=(by have h:=aiN;rewrite [<-aK.eq_1,<-jX]at h;exact h:ay 146=_)
def L_:=(li Tryz.func147 rfl).trans (by cbv)
def yE:KC:=ku (ay 147) 0
def js:=(by have h:=(dK L_ 0).trans (by cbv);exact h:yE=_)
def yF:KC:=ku (ay 147) 1
def lO:=(by have h:=(dK L_ 1).trans (by cbv);rewrite [<-js]at h;exact h:yF=_)
def yG:KC:=ku (ay 147) 2
def lQ:=(by have h:=(dK L_ 2).trans (by cbv);exact h:yG=_)
def yH:KC:=ku (ay 147) 3
def jt:=(by have h:=(dK L_ 3).trans (by cbv);exact h:yH=_)
def yI:KC:=ku (ay 147) 4
def lU:=(by have h:=(dK L_ 4).trans (by cbv);rewrite [<-jt]at h;exact h:yI=_)
def azG:=(by have h:=L_;rewrite [<-Nm.eq_1,<-cK.eq_1,<-js,<-lO,<-lQ,<-jt,<-lU]at h;exact h:ay 147=_)
def azH:=(li Tryz.func148 rfl).trans (by cbv)
def atd:=(li Tryz.func149 rfl).trans (by cbv)
def azI:=(by have h:=atd;rewrite [<-cK.eq_1]at h;exact h:ay 149=_)
def ate:=(li Tryz.func150 rfl).trans (by cbv)
def azJ:=(by have h:=ate;rewrite [<-nB.eq_1,<-cK.eq_1]at h;exact h:ay 150=_)
def azK:ay 151=some ⟨73,mv [ee 3 (q_b 24 0),ee 4 (q_b 24 1),ee 5 (q_b 8 2),ee 6 (.alloc nB)] (.dU [3,4,5,6] (.Q (.draw [(7,[.I .u32 0,.I .u32 0,.I .u32 0,.I .u32 0,.I .u32 0,.I .u32 0,.I .u32 0,.I .u32 0])] [H (eN 16 0 3) 0 0,H (ee 17 (dZ 8 16)) 0 0,H (eN 18 8 4) 0 0,H (ee 19 (dZ 8 18)) 0 0,m0 (ee 20 (qX 147 [17,19])) 0 1,H (eN 21 8 3) 0 1,H (ee 22 (dZ 8 21)) 0 1,H (eN 23 0 4) 0 1,H (ee 24 (dZ 8 23)) 0 1,m0 (ee 25 (qX 147 [22,24])) 1 2,m0 (ee 26 (qX 218 [20,25])) 2 3,m0 (HK (HM 8 7 26)) 3 4]) (.dU [3,4,5,6,7] (.Q (.draw [(8,[.I .u32 0,.I .u32 0,.I .u32 0,.I .u32 0,.I .u32 0,.I .u32 0,.I .u32 0,.I .u32 0]),(9,[.I .u32 0,.I .u32 0,.I .u32 0,.I .u32 0,.I .u32 0,.I .u32 0,.I .u32 0,.I .u32 0])] [H (eN 27 0 3) 0 0,H (ee 28 (dZ 8 27)) 0 0,H (eN 29 0 4) 0 0,H (ee 30 (dZ 8 29)) 0 0,m0 (ee 31 (qX 147 [28,30])) 0 1,H (eN 32 8 3) 0 1,H (ee 33 (dZ 8 32)) 0 1,H (eN 34 8 4) 0 1,H (ee 35 (dZ 8 34)) 0 1,m0 (ee 36 (qX 147 [33,35])) 1 2,m0 (HK (HM 8 8 31)) 2 3,m0 (HK (HM 8 9 36)) 3 4]) (.dU [3,4,5,6,7,8,9] (mv [ee 37 (dZ 8 9),ee 38 (dZ 8 8),ee 39 (qX 218 [37,38]),ee 10 (.alloc cK),HK (HM 8 10 39)] (.dU [3,4,5,6,7,8,9,10] (mv [eN 40 16 3,ee 41 (dZ 8 40),eN 42 16 4,ee 43 (dZ 8 42),ee 44 (qX 147 [41,43]),ee 11 (.alloc cK),HK (HM 8 11 44)] (.dU [5,6,7,8,9,10,11] (mv [ee 45 (dZ 8 11),ee 46 (dZ 8 11),ee 47 (qX 147 [45,46]),ee 12 (.alloc cK),HK (HM 8 12 47)] (.dU [5,6,7,8,9,10,11,12] (.Q (.draw [(13,[.I .u32 0,.I .u32 0,.I .u32 0,.I .u32 0,.I .u32 0,.I .u32 0,.I .u32 0,.I .u32 0])] [H (ee 48 (dZ 8 5)) 0 1,H (ee 49 (dZ 8 8)) 0 0,H (ee 50 (dZ 8 9)) 0 0,m0 (ee 51 (qX 147 [49,50])) 0 1,m0 (ee 52 (qX 147 [48,51])) 1 2,m0 (HK (HM 8 13 52)) 2 3]) (.dU [6,7,10,11,12,13] (.Q (.draw [(14,[.I .u32 0,.I .u32 0,.I .u32 0,.I .u32 0,.I .u32 0,.I .u32 0,.I .u32 0,.I .u32 0]),(15,[.I .u32 0,.I .u32 0,.I .u32 0,.I .u32 0,.I .u32 0,.I .u32 0,.I .u32 0,.I .u32 0])] [H (ee 53 (dZ 8 12)) 0 0,H (ee 54 (dZ 8 13)) 0 0,m0 (ee 55 (qX 218 [53,54])) 0 1,H (ee 56 (dZ 8 12)) 0 1,H (ee 57 (dZ 8 13)) 0 1,m0 (ee 58 (qX 217 [56,57])) 1 2,m0 (HK (HM 8 14 55)) 2 3,m0 (HK (HM 8 15 58)) 3 4]) (.dU [6,7,10,11,14,15] (.Q (.draw [] [H (ee 59 (dZ 8 7)) 0 0,H (ee 60 (dZ 8 11)) 0 0,m0 (ee 61 (qX 147 [59,60])) 0 1,H (ee 62 (dZ 8 15)) 0 1,m0 (ee 63 (qX 147 [61,62])) 1 2,H (ee 64 (dZ 8 10)) 0 2,H (ee 65 (dZ 8 11)) 0 2,m0 (ee 66 (qX 147 [64,65])) 2 3,H (ee 67 (dZ 8 14)) 0 3,m0 (ee 68 (qX 147 [66,67])) 3 4,H (ee 69 (dZ 8 14)) 0 4,H (ee 70 (dZ 8 15)) 0 4,m0 (ee 71 (qX 147 [69,70])) 4 5,H (cG 72 (.bld nB [(0,8,.t 63),(8,8,.t 68),(16,8,.t 71)])) 5 5,m0 (HK (HM 24 6 72)) 5 6]) (Jz [6]))))))))))))))))),[.C 6 (.A 24)]⟩:=(li Tryz.func151 rfl).trans (by kernel_rfl)
def atf:=(li Tryz.func152 rfl).trans (by cbv)
def azL:=(by have h:=atf;rewrite [<-cK.eq_1]at h;exact h:ay 152=_)
def aiO:=(li Tryz.func153 rfl).trans (by cbv)
def Db:List KO:=xF (ay 153) 8
def g8:=(by have h:=(m7 aiO 8).trans (by cbv);rewrite [<-cK.eq_1]at h;exact h:Db=_)
def azM:=(by have h:=aiO;rewrite [<-nB.eq_1,<-cK.eq_1,<-g8]at h;exact h:ay 153=_)
def abk:=(li Tryz.func154 rfl).trans (by cbv)
def rL:KC:=ku (ay 154) 0
def iW:=(by have h:=(dK abk 0).trans (by cbv);exact h:rL=_)
def wK:KC:=ku (ay 154) 1
def kP:=(by have h:=(dK abk 1).trans (by cbv);exact h:wK=_)
def aza:=(by have h:=abk;rewrite [<-iW,<-kP]at h;exact h:ay 154=_)
def azN:=(li Tryz.func155 rfl).trans (by cbv)
def azO:=(li Tryz.func156 rfl).trans (by cbv)
def aiP:=(li Tryz.func157 rfl).trans (by cbv)
def Qx:List KO:=xF (ay 157) 1
def mC:=(by have h:=(m7 aiP 1).trans (by cbv);exact h:Qx=_)
def axX:=(by have h:=aiP;rewrite [<-mC]at h;exact h:ay 157=_)
def azP:=(li Tryz.func158 rfl).trans (by cbv)
end
end Go.Proofs.YtefopednbffpaaaGreatDoor.am
