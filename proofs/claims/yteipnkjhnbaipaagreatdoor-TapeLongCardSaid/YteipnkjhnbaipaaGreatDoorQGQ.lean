/- Parts. No condition. -/
import Derived.KernelRfl
import Derived.Test.YteipnkjhnbaipaaGreatDoorQGP
set_option linter.all false
namespace Go.Proofs.YteipnkjhnbaipaaGreatDoor.am
open Go
open Bool renaming false->O
open Decidable renaming decide->aN
noncomputable section
set_option maxRecDepth 100000
set_option maxHeartbeats 0
def Fb:=(li Tryz.func60 rfl).trans (by cbv)
def qC:List KO:=rk (aG 60) 2
def pJ:=(by have h:=(je Fb 2).trans (by cbv);exact h:qC=_)
def qD:List KO:=rk (aG 60) 4
def pL:=(by have h:=(je Fb 4).trans (by cbv);exact h:qD=_)
def qE:List KO:=rk (aG 60) 6
def pM:=(by have h:=(je Fb 6).trans (by cbv);rewrite [<-ai.eq_1]at h;exact h:qE=_)
def qF:List KO:=rk (aG 60) 8
def pO:=(by have h:=(je Fb 8).trans (by cbv);rewrite [<-ai.eq_1]at h;exact h:qF=_)
def qG:List KO:=rk (aG 60) 11
def pP:=(by have h:=(je Fb 11).trans (by cbv);exact h:qG=_)
def ya:List KD:=dwK (aG 60) 0
def hW:=(by have h:=(agf Fb 0).trans (by cbv);exact h:ya=_)
def mR:KC:=oK (aG 60) 0
def fU:=(by have h:=(gL Fb 0).trans (by cbv);rewrite [<-hW]at h;exact h:mR=_)
def alP:=(by have h:=Fb;rewrite [<-ai.eq_1,<-pJ,<-pL,<-pM,<-pO,<-pP,<-hW,<-fU]at h;exact h:aG 60=_)
def amk:=(li Tryz.func61 rfl).trans (by cbv)
def alN:=(li Tryz.func62 rfl).trans (by cbv)
def alO:=(li Tryz.func63 rfl).trans (by cbv)
def aaN:=(li Tryz.func64 rfl).trans (by cbv)
def qO:KC:=oK (aG 64) 0
def cX:=(by have h:=(gL aaN 0).trans (by cbv);exact h:qO=_)
def aml:=(by have h:=aaN;rewrite [<-cX]at h;exact h:aG 64=_)
def ah4:=(li Tryz.func65 rfl).trans (by cbv)
def amm:=(li Tryz.func66 rfl).trans (by cbv)
def amn:=(li Tryz.func67 rfl).trans (by cbv)
def aaO:=(li Tryz.func68 rfl).trans (by cbv)
def tY:KC:=oK (aG 68) 0
def gj:=(by have h:=(gL aaO 0).trans (by cbv);exact h:tY=_)
def amo:=(by have h:=aaO;rewrite [<-Az.eq_1,<-gj]at h;exact h:aG 68=_)
def amp:=(li Tryz.func69 rfl).trans (by cbv)
def ah5:=(li Tryz.func70 rfl).trans (by cbv)
def amq:=(by have h:=ah5;rewrite [<-cC.eq_1]at h;exact h:aG 70=_)
def ah6:=(li Tryz.func71 rfl).trans (by cbv)
def ah7:=(by have h:=ah6;rewrite [<-cC.eq_1]at h;exact h:aG 71=_)
def ah8:=(li Tryz.func72 rfl).trans (by cbv)
def aaP:=(li Tryz.func73 rfl).trans (by cbv)
def qP:KC:=oK (aG 73) 0
def hX:=(by have h:=(gL aaP 0).trans (by cbv);exact h:qP=_)
def amr:=(by have h:=aaP;rewrite [<-hX]at h;exact h:aG 73=_)
def aaQ:=(li Tryz.func74 rfl).trans (by cbv)
def N0:List KO:=rk (aG 74) 1
def nN:=(by have h:=(je aaQ 1).trans (by cbv);exact h:N0=_)
def alv:=(by have h:=aaQ;rewrite [<-nN]at h;exact h:aG 74=_)
def aaR:=(li Tryz.func75 rfl).trans (by cbv)
def IY:List KO:=rk (aG 75) 1
def ic:=(by have h:=(je aaR 1).trans (by cbv);exact h:IY=_)
def alu:=(by have h:=aaR;rewrite [<-ic]at h;exact h:aG 75=_)
def ams:=(li Tryz.func76 rfl).trans (by cbv)
def amt:=(li Tryz.func77 rfl).trans (by cbv)
def Ri:=(li Tryz.func78 rfl).trans (by cbv)
def LD:List KO:=rk (aG 78) 6
def AA:=(by have h:=(je Ri 6).trans (by cbv);exact h:LD=_)
def LF:List KO:=rk (aG 78) 8
def AB:=(by have h:=(je Ri 8).trans (by cbv);exact h:LF=_)
def LG:List KO:=rk (aG 78) 12
def AD:=(by have h:=(je Ri 12).trans (by cbv);exact h:LG=_)
def amu:=(by have h:=Ri;rewrite [<-ai.eq_1,<-AA,<-AB,<-AD]at h;exact h:aG 78=_)
def amv:=(li Tryz.func79 rfl).trans (by cbv)
def amw:=(li Tryz.func80 rfl).trans (by cbv)
def amx:=(li Tryz.func81 rfl).trans (by cbv)
def alK:=(li Tryz.func82 rfl).trans (by cbv)
def alJ:=(li Tryz.func83 rfl).trans (by cbv)
def ah9:=(li Tryz.func84 rfl).trans (by cbv)
def amy:=(by have h:=ah9;rewrite [<-cC.eq_1]at h;exact h:aG 84=_)
def VQ:=(li Tryz.func85 rfl).trans (by cbv)
def AE:KC:=oK (aG 85) 0
def mr:=(by have h:=(gL VQ 0).trans (by cbv);rewrite [<-lC.eq_1,<-ai.eq_1]at h;exact h:AE=_)
def AF:KC:=oK (aG 85) 1
def iM:=(by have h:=(gL VQ 1).trans (by cbv);rewrite [<-ad.eq_1]at h;exact h:AF=_)
def amz:=(by have h:=VQ;rewrite [<-ad.eq_1,<-lC.eq_1,<-ai.eq_1,<-mr,<-iM]at h;exact h:aG 85=_)
def aaS:=(li Tryz.func91 rfl).trans (by cbv)
def rK:KC:=oK (aG 91) 0
def iJ:=(by have h:=(gL aaS 0).trans (by cbv);exact h:rK=_)
def alC:=(by have h:=aaS;rewrite [<-iJ]at h;exact h:aG 91=_)
def alE:=(li Tryz.func92 rfl).trans (by cbv)
def VR:=(li Tryz.func94 rfl).trans (by cbv)
def zm:List KO:=rk (aG 94) 4
def mv:=(by have h:=(je VR 4).trans (by cbv);exact h:zm=_)
def rQ:KC:=oK (aG 94) 0
def gB:=(by have h:=(gL VR 0).trans (by cbv);rewrite [<-mv]at h;exact h:rQ=_)
def amA:=(by have h:=VR;rewrite [<-mv,<-gB]at h;exact h:aG 94=_)
def aaT:=(li Tryz.func95 rfl).trans (by cbv)
def qQ:KC:=oK (aG 95) 0
def fX:=(by have h:=(gL aaT 0).trans (by cbv);exact h:qQ=_)
def amB:=(by have h:=aaT;rewrite [<-fX]at h;exact h:aG 95=_)
def m_:List KO:=[jO 10 3,fB 11 (tU .lss 10 1),jO 12 11,FK 13 12 3,mh 14 12 (tU .gtr 13 6),fB 15 (FL 12 14),jO 16 15,FK 17 16 3,mh 18 16 (tU .neq 17 1),FK 19 16 18,q_x 20 19 3,xu 21 19 (tU .neq 20 2),mh 22 16 (Px 19 21),FK 23 16 22,xu 24 23 (vn 1 1),JT 25 23 (wS 24),xu 26 23 (tU .neq 25 0),mh 27 16 (Px 23 26),fB 28 (FL 16 27),jO 29 28,FK 30 29 3,mh 31 29 (tU .neq 30 3),FK 32 29 31,q_x 33 32 3,xu 34 32 (tU .neq 33 4),mh 35 29 (Px 32 34),FK 36 29 35,xu 37 36 (vn 2 1),JT 38 36 (wS 37),xu 39 36 (.IJ .neq (.t 38) (.c (.S []))),mh 40 29 (Px 36 39),fB 41 (FL 29 40),jO 42 41,FK 43 42 3,mh 44 42 (tU .neq 43 5),FK 45 42 44,xu 46 45 (vn 3 1),JT 47 45 (wS 46),xu 48 45 (Cs 47),xu 49 45 (tU .gtr 48 0),mh 50 42 (Px 45 49),fB 51 (FL 42 50),jO 52 51,FK 53 52 3,mh 54 52 (tU .neq 53 6),FK 55 52 54,xu 56 55 (vn 4 1),JT 57 55 (wS 56),xu 58 55 (Cs 57),xu 59 55 (tU .gtr 58 0),mh 60 52 (Px 55 59),fB 61 (FL 52 60)]
def wx:=m_.eq_1
def na:List KO:=[jO 62 3,fB 63 (tU .eql 62 1),jO 64 63,xu 65 64 (vn 1 1),JT 66 64 (wS 65),xu 67 64 (tU .neq 66 0),fB 68 (Px 64 67),jO 69 68,xu 70 69 (vn 1 1),JT 71 69 (wS 70),xu 72 69 (tU .neq 71 1),fB 73 (Px 69 72),jO 74 73,FK 75 74 3,mh 76 74 (tU .eql 75 3),FK 77 74 76,xu 78 77 (vn 2 1),JT 79 77 (wS 78),xu 80 77 (q_S 79),xu 81 77 (tU .gtr 80 64),mh 82 74 (Px 77 81),fB 83 (FL 74 82),jO 84 83,FK 85 84 3,mh 86 84 (tU .eql 85 4),FK 87 84 86,xu 88 87 (vn 2 1),JT 89 87 (wS 88),JT 90 87 (Ha 94 [89]),xu 91 87 (SM 90),mh 92 84 (Px 87 91),fB 93 (FL 84 92),jO 94 93,mh 95 94 (vn 3 1),y8 96 94 (wS 95),mh 97 94 (Cs 96),mh 98 94 (tU .gtr 97 8),fB 99 (FL 94 98),jO 100 99,mh 101 100 (vn 4 1),y8 102 100 (wS 101),mh 103 100 (Cs 102),mh 104 100 (tU .gtr 103 12),fB 105 (FL 100 104),jO 106 105,mh 107 106 (vn 5 1),y8 108 106 (wS 107),mh 109 106 (Cs 108),mh 110 106 (vn 3 1),y8 111 106 (wS 110),mh 112 106 (Cs 111),mh 113 106 (vn 4 1),y8 114 106 (wS 113),mh 115 106 (Cs 114),mh 116 106 (IC .add 112 115),mh 117 106 (IC .neq 109 116),fB 118 (FL 106 117)]
def wy:=na.eq_1
def qR:List KD:=[eF (iu 126 3 1) 0 0,eF (hD 127 126) 0 0,eF (jO 128 4) 0 0,eF (fB 129 (D1 1 127 128)) 0 0,eF (hD 130 129) 0 0,La (tx 131 (Ha 94 [130])) 0 1,eF (fB 132 (SM 131)) 1 1,eF (jO 133 132) 1 1,eF (FK 134 133 4) 1 1,eF (mh 135 133 (tU .gtr 134 0)) 1 1,eF (FK 136 133 135) 1 1,eF (xu 137 136 (vn 3 1)) 1 1,eF (JT 138 136 (wS 137)) 1 1,eF (q_x 139 136 4) 1 1,eF (xu 140 136 (D1 1 138 139)) 1 1,eF (JT 141 136 (wS 140)) 1 1,eF (xu 142 136 (vn 3 1)) 1 1,eF (JT 143 136 (wS 142)) 1 1,eF (q_x 144 136 4) 1 1,eF (xu 145 136 (tU .sub 144 1)) 1 1,eF (xu 146 136 (D1 1 143 145)) 1 1,eF (JT 147 136 (wS 146)) 1 1,eF (xu 148 136 (.IJ .leq (.t 141) (.t 147))) 1 1,eF (mh 149 133 (Px 136 148)) 1 1,eF (fB 150 (FL 133 149)) 1 1]
def jw:=qR.eq_1
def nd:KC:=.dJ [1,4] (.Q (nv [jO 119 4,iu 120 3 1,hD 121 120,fB 122 (Cs 121),fB 123 (IC .lss 119 122)] (.cond (.t 123) .skip (.dJ [1] (.exit 0)))) (.Q (.block 1 (.Q (.draw [] qR) (.dJ [1,4,150] (rm 150 (nv [fB 2 (vK (.B false))] (FM [2])))))) (.ops [jO 124 4,fB 125 (tU .add 124 1),jO 4 125])))
def hY:=nd.eq_1
def ng:KC:=.dJ [1,5,6] (.Q (nv [jO 158 6,jO 159 5,fB 160 (IC .lss 158 159)] (.cond (.t 160) .skip (.dJ [1,5] (.exit 4)))) (.Q (.block 5 (.Q (.draw [] [eF (iu 163 4 1) 0 0,eF (hD 164 163) 0 0,eF (jO 165 5) 0 0,eF (fB 166 (D1 1 164 165)) 0 0,eF (hD 167 166) 0 0,eF (iu 168 4 1) 0 0,eF (hD 169 168) 0 0,eF (jO 170 6) 0 0,eF (fB 171 (D1 1 169 170)) 0 0,eF (hD 172 171) 0 0,eF (fB 173 (IC .eql 167 172)) 0 0]) (rm 173 (nv [fB 2 (vK (.B false))] (FM [2]))))) (.ops [jO 161 6,fB 162 (tU .add 161 1),jO 6 162])))
def jx:=ng.eq_1
def nh:KC:=.dJ [1,5] (.Q (nv [jO 151 5,iu 152 4 1,hD 153 152,fB 154 (Cs 153),fB 155 (IC .lss 151 154)] (.cond (.t 155) .skip (.dJ [1] (.exit 2)))) (.Q (.block 3 (.Q (nv [fB 6 (vK (.I .i64 0))] (.block 4 (.L ng))) (nv [iu 174 4 1,hD 175 174,jO 176 5,fB 177 (D1 1 175 176),hD 178 177,fB 179 (.Uw .eql (.t 178) (.c (.I .u64 0)))] (rm 179 (nv [fB 2 (vK (.B false))] (FM [2])))))) (.ops [jO 156 5,fB 157 (tU .add 156 1),jO 5 157])))
def jy:=nh.eq_1
def nj:KC:=.dJ [1,7] (.Q (nv [jO 180 7,iu 181 5 1,hD 182 181,fB 183 (Cs 182),fB 184 (IC .lss 180 183)] (.cond (.t 184) .skip (.dJ [] (.exit 6)))) (.Q (.block 7 (nv [iu 187 5 1,hD 188 187,jO 189 7,fB 190 (D1 6 188 189),tx 191 (uh 6 190),tx 192 (Ha 96 [191]),fB 193 (SM 192)] (rm 193 (nv [fB 2 (vK (.B false))] (FM [2]))))) (.ops [jO 185 7,fB 186 (tU .add 185 1),jO 7 186])))
def jA:=nj.eq_1
def amC:aG 96=some ⟨194,nv [tx 1 (q_b 6 0),fB 2 (vK (.B false))] (nv [iu 8 0 1,hD 9 8,jO 3 9] (.Q (nv m_ (.dJ [1,3,61] (rm 61 (nv [fB 2 (vK (.B false))] (FM [2]))))) (.Q (nv na (.dJ [1,118] (rm 118 (nv [fB 2 (vK (.B false))] (FM [2]))))) (.Q (nv [fB 4 (vK (.I .i64 0))] (.block 0 (.L nd))) (.Q (nv [fB 5 (vK (.I .i64 0))] (.block 2 (.L nh))) (.Q (nv [fB 7 (vK (.I .i64 0))] (.block 6 (.L nj))) (nv [fB 2 (vK (.B true))] (FM [2])))))))),[.tmp 2]⟩:=(li Tryz.func96 rfl).trans (by kernel_rfl)
end
end Go.Proofs.YteipnkjhnbaipaaGreatDoor.am
