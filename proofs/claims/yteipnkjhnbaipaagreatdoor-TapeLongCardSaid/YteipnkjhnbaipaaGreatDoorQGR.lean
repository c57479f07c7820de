/- Parts. No condition. -/
import Derived.KernelRfl
import Derived.Test.YteipnkjhnbaipaaGreatDoorQGQ
set_option linter.all false
namespace Go.Proofs.YteipnkjhnbaipaaGreatDoor.am
open Go
open Bool renaming false->O
open Decidable renaming decide->aN
noncomputable section
set_option maxRecDepth 100000
set_option maxHeartbeats 0
def ah_:=(li Tryz.func97 rfl).trans (by cbv)
def amD:=(li Tryz.func98 rfl).trans (by cbv)
def alM:=(li Tryz.func99 rfl).trans (by cbv)
def LH:=(li Tryz.func100 rfl).trans (by cbv)
def sd:List KO:=rk (aG 100) 21
def lF:=(by have h:=(je LH 21).trans (by cbv);exact h:sd=_)
def se:List KO:=rk (aG 100) 30
def lG:=(by have h:=(je LH 30).trans (by cbv);exact h:se=_)
def si:KC:=oK (aG 100) 0
def qS:=(by have h:=(gL LH 0).trans (by cbv);rewrite [<-lF,<-lG]at h;exact h:si=_)
def aia:=(by have h:=LH;rewrite [<-lF,<-lG,<-qS]at h;exact h:aG 100=_)
def VS:=(li Tryz.func101 rfl).trans (by cbv)
def s_:KC:=oK (aG 101) 0
def iW:=(by have h:=(gL VS 0).trans (by cbv);exact h:s_=_)
def aib:=(by have h:=VS;rewrite [<-iW]at h;exact h:aG 101=_)
def acD:=(li Tryz.func103 rfl).trans (by cbv)
def aic:=(by have h:=acD;rewrite [<-cC.eq_1]at h;exact h:aG 103=_)
def acE:=(li Tryz.func104 rfl).trans (by cbv)
def aid:=(by have h:=acE;rewrite [<-cC.eq_1]at h;exact h:aG 104=_)
def acF:=(li Tryz.func105 rfl).trans (by cbv)
def aie:=(by have h:=acF;rewrite [<-cC.eq_1,<-ag.eq_1]at h;exact h:aG 105=_)
def acG:=(li Tryz.func106 rfl).trans (by cbv)
def aif:=(by have h:=acG;rewrite [<-ad.eq_1,<-cC.eq_1]at h;exact h:aG 106=_)
def acH:=(li Tryz.func107 rfl).trans (by cbv)
def aih:=(by have h:=acH;rewrite [<-cC.eq_1]at h;exact h:aG 107=_)
def VT:=(li Tryz.func108 rfl).trans (by cbv)
def pt:KC:=oK (aG 108) 0
def gn:=(by have h:=(gL VT 0).trans (by cbv);exact h:pt=_)
def agB:=(by have h:=VT;rewrite [<-gn]at h;exact h:aG 108=_)
def VU:=(li Tryz.func109 rfl).trans (by cbv)
def Hv:List KO:=rk (aG 109) 1
def jo:=(by have h:=(je VU 1).trans (by cbv);exact h:Hv=_)
def agI:=(by have h:=VU;rewrite [<-jo]at h;exact h:aG 109=_)
def VV:=(li Tryz.func110 rfl).trans (by cbv)
def FY:List KO:=rk (aG 110) 1
def qA:=(by have h:=(je VV 1).trans (by cbv);exact h:FY=_)
def agJ:=(by have h:=VV;rewrite [<-qA]at h;exact h:aG 110=_)
def VW:=(li Tryz.func111 rfl).trans (by cbv)
def mG:KC:=oK (aG 111) 0
def e6:=(by have h:=(gL VW 0).trans (by cbv);rewrite [<-lC.eq_1]at h;exact h:mG=_)
def agG:=(by have h:=VW;rewrite [<-lC.eq_1,<-e6]at h;exact h:aG 111=_)
def agK:=(li Tryz.func112 rfl).trans (by cbv)
def VX:=(li Tryz.func113 rfl).trans (by cbv)
def mH:KC:=oK (aG 113) 0
def e7:=(by have h:=(gL VX 0).trans (by cbv);rewrite [<-ad.eq_1]at h;exact h:mH=_)
def agH:=(by have h:=VX;rewrite [<-ad.eq_1,<-e7]at h;exact h:aG 113=_)
def aii:=(li Tryz.func115 rfl).trans (by cbv)
def aij:=(li Tryz.func116 rfl).trans (by cbv)
def VY:=(li Tryz.func117 rfl).trans (by cbv)
def tE:KC:=oK (aG 117) 0
def dM:=(by have h:=(gL VY 0).trans (by cbv);rewrite [<-ai.eq_1]at h;exact h:tE=_)
def aik:=(by have h:=VY;rewrite [<-ai.eq_1,<-dM]at h;exact h:aG 117=_)
def ail:=(li Tryz.func118 rfl).trans (by cbv)
def VZ:=(li Tryz.func119 rfl).trans (by cbv)
def AG:KC:=oK (aG 119) 0
def js:=(by have h:=(gL VZ 0).trans (by cbv);exact h:AG=_)
def aim:=(by have h:=VZ;rewrite [<-js]at h;exact h:aG 119=_)
def V0:=(li Tryz.func120 rfl).trans (by cbv)
def qT:KC:=oK (aG 120) 0
def jB:=(by have h:=(gL V0 0).trans (by cbv);exact h:qT=_)
def ain:=(by have h:=V0;rewrite [<-jB]at h;exact h:aG 120=_)
def aio:=(li Tryz.func121 rfl).trans (by cbv)
def P2:=(li Tryz.func122 rfl).trans (by cbv)
def Hw:List KO:=rk (aG 122) 2
def fj:=(by have h:=(je P2 2).trans (by cbv);exact h:Hw=_)
def Hx:List KO:=rk (aG 122) 11
def sc:=(by have h:=(je P2 11).trans (by cbv);exact h:Hx=_)
def aav:=(by have h:=P2;rewrite [<-fj,<-sc]at h;exact h:aG 122=_)
def aip:=(li Tryz.func123 rfl).trans (by cbv)
def aiq:=(li Tryz.func124 rfl).trans (by cbv)
def V1:=(li Tryz.func125 rfl).trans (by cbv)
def yT:KC:=oK (aG 125) 0
def lH:=(by have h:=(gL V1 0).trans (by cbv);rewrite [<-ai.eq_1]at h;exact h:yT=_)
def air:=(by have h:=V1;rewrite [<-ai.eq_1,<-lH]at h;exact h:aG 125=_)
def P3:=(li Tryz.func130 rfl).trans (by cbv)
def nX:KC:=oK (aG 130) 0
def gy:=(by have h:=(gL P3 0).trans (by cbv);exact h:nX=_)
def rL:KC:=oK (aG 130) 1
def iL:=(by have h:=(gL P3 1).trans (by cbv);exact h:rL=_)
def agN:=(by have h:=P3;rewrite [<-gy,<-iL]at h;exact h:aG 130=_)
def ais:=(li Tryz.func131 rfl).trans (by cbv)
def rR:List KD:=[eF (iu 48 3 2) 0 0,eF (hD 49 48) 0 0,eF (jO 50 6) 0 0,eF (fB 51 (D1 1 49 50)) 0 0,eF (hD 52 51) 0 0,eF (iu 53 1 3) 0 0,eF (hD 54 53) 0 0,eF (jO 55 6) 0 0,eF (fB 56 (D1 1 54 55)) 0 0,eF (hD 57 56) 0 0,eF (fB 58 (.IJ .neq (.t 52) (.t 57))) 0 0,eF (jO 59 58) 0 0,eF (mh 60 59 (vn 5 2)) 0 0,eF (y8 61 59 (wS 60)) 0 0,eF (FK 62 59 6) 0 0,eF (mh 63 59 (D1 6 61 62)) 0 0,eF (y8 64 59 (uh 6 63)) 0 0,eF (mh 65 59 (vn 2 3)) 0 0,eF (y8 66 59 (wS 65)) 0 0,eF (FK 67 59 6) 0 0,eF (mh 68 59 (D1 3 66 67)) 0 0,eF (y8 69 59 (uh 3 68)) 0 0,La (y8 70 59 (Ha 132 [64,69])) 0 1,eF (mh 71 59 (SM 70)) 1 1,eF (fB 72 (FL 59 71)) 1 1]
def my:=rR.eq_1
def kO:KC:=.dJ [2,3,5] (.Q (nv [jO 16 5,iu 17 1 3,hD 18 17,fB 19 (Cs 18),fB 20 (IC .lss 16 19)] (.cond (.t 20) .skip (.dJ [] (.exit 0)))) (.Q (.block 1 (.Q (.draw [] [eF (iu 23 1 3) 0 0,eF (hD 24 23) 0 0,eF (jO 25 5) 0 0,eF (fB 26 (D1 1 24 25)) 0 0,eF (hD 27 26) 0 0,eF (iu 28 2 2) 0 0,eF (hD 29 28) 0 0,eF (fB 30 (.IJ .eql (.t 27) (.t 29))) 0 0]) (rm 30 (nv [fB 4 (vK (.B true))] (FM [4]))))) (.ops [jO 21 5,fB 22 (tU .add 21 1),jO 5 22])))
def iN:=kO.eq_1
def n_:KC:=.dJ [2,3,6] (.Q (nv [jO 41 6,iu 42 3 2,hD 43 42,fB 44 (Cs 43),fB 45 (IC .lss 41 44)] (.cond (.t 45) .skip (.dJ [2,3] (.exit 2)))) (.Q (.block 3 (.Q (.draw [] rR) (.dJ [2,3,6,72] (rm 72 (nv [fB 4 (vK (.B false))] (FM [4])))))) (.ops [jO 46 6,fB 47 (tU .add 46 1),jO 6 47])))
def iO:=n_.eq_1
def oa:KC:=.dJ [2,3,7] (.Q (nv [jO 76 7,iu 77 5 2,hD 78 77,fB 79 (Cs 78),fB 80 (IC .lss 76 79)] (.cond (.t 80) .skip (.dJ [] (.exit 4)))) (.Q (.block 5 (.Q (.draw [] [eF (iu 83 5 2) 0 0,eF (hD 84 83) 0 0,eF (jO 85 7) 0 0,eF (fB 86 (D1 6 84 85)) 0 0,eF (tx 87 (uh 6 86)) 0 0,eF (iu 88 2 3) 0 0,eF (hD 89 88) 0 0,eF (fB 90 (.ixL 3 (.t 89) (q_i 0))) 0 0,eF (tx 91 (uh 3 90)) 0 0,La (tx 92 (Ha 132 [87,91])) 0 1,eF (fB 93 (SM 92)) 1 1]) (rm 93 (nv [fB 4 (vK (.B false))] (FM [4]))))) (.ops [jO 81 7,fB 82 (tU .add 81 1),jO 7 82])))
def iP:=oa.eq_1
def ait:aG 132=some ⟨94,nv [tx 2 (q_b 6 0),tx 3 (q_b 3 1),fB 4 (vK (.B false))] (.Q (nv [iu 8 0 2,hD 9 8,iu 10 0 3,hD 11 10,fB 12 (IC .neq 9 11)] (rm 12 (nv [fB 4 (vK (.B false))] (FM [4])))) (.Q (nv [iu 13 0 2,hD 14 13,fB 15 (tU .eql 14 4)] (rm 15 (.Q (nv [fB 5 (vK (.I .i64 0))] (.block 0 (.L kO))) (nv [fB 4 (vK (.B false))] (FM [4]))))) (.Q (nv [iu 31 0 2,hD 32 31,fB 33 (tU .eql 32 5)] (rm 33 (.Q (nv [iu 34 3 2,hD 35 34,fB 36 (Cs 35),iu 37 1 3,hD 38 37,fB 39 (Cs 38),fB 40 (IC .neq 36 39)] (rm 40 (nv [fB 4 (vK (.B false))] (FM [4])))) (nv [fB 6 (vK (.I .i64 0))] (.block 2 (.L n_)))))) (.Q (nv [iu 73 0 2,hD 74 73,fB 75 (tU .eql 74 6)] (rm 75 (nv [fB 7 (vK (.I .i64 0))] (.block 4 (.L oa))))) (nv [fB 4 (vK (.B true))] (FM [4])))))),[.tmp 4]⟩:=(li Tryz.func132 rfl).trans (by kernel_rfl)
def aiu:=(li Tryz.func139 rfl).trans (by cbv)
def P4:=(li Tryz.func142 rfl).trans (by cbv)
def Eh:List KO:=rk (aG 142) 4
def qc:=(by have h:=(je P4 4).trans (by cbv);exact h:Eh=_)
def xb:KC:=oK (aG 142) 0
def ky:=(by have h:=(gL P4 0).trans (by cbv);rewrite [<-qc]at h;exact h:xb=_)
def aiv:=(by have h:=P4;rewrite [<-qc,<-ky]at h;exact h:aG 142=_)
def aiw:=(li Tryz.func143 rfl).trans (by cbv)
def acI:=(li Tryz.func144 rfl).trans (by cbv)
def aix:=(by have h:=acI;rewrite [<-cC.eq_1,<-ag.eq_1]at h;exact h:aG 144=_)
def V2:=(li Tryz.func145 rfl).trans (by cbv)
def BC:List KD:=dwK (aG 145) 0
def kP:=(by have h:=(agf V2 0).trans (by cbv);exact h:BC=_)
def aiy:=(by have h:=V2;rewrite [<-kP]at h;exact h:aG 145=_)
def acJ:=(li Tryz.func146 rfl).trans (by cbv)
def aiz:=(by have h:=acJ;rewrite [<-ad.eq_1]at h;exact h:aG 146=_)
def V3:=(li Tryz.func148 rfl).trans (by cbv)
def qg:KC:=oK (aG 148) 0
def gU:=(by have h:=(gL V3 0).trans (by cbv);exact h:qg=_)
def agC:=(by have h:=V3;rewrite [<-gU]at h;exact h:aG 148=_)
def V4:=(li Tryz.func149 rfl).trans (by cbv)
def qh:KC:=oK (aG 149) 0
def gV:=(by have h:=(gL V4 0).trans (by cbv);exact h:qh=_)
def agD:=(by have h:=V4;rewrite [<-gV]at h;exact h:aG 149=_)
def V5:=(li Tryz.func150 rfl).trans (by cbv)
def mn:KC:=oK (aG 150) 0
def eP:=(by have h:=(gL V5 0).trans (by cbv);rewrite [<-ai.eq_1]at h;exact h:mn=_)
def agE:=(by have h:=V5;rewrite [<-ai.eq_1,<-eP]at h;exact h:aG 150=_)
def V6:=(li Tryz.func151 rfl).trans (by cbv)
def l7:KC:=oK (aG 151) 0
def eD:=(by have h:=(gL V6 0).trans (by cbv);exact h:l7=_)
def agF:=(by have h:=V6;rewrite [<-eD]at h;exact h:aG 151=_)
def aiA:=(li Tryz.func156 rfl).trans (by cbv)
def aiB:=(li Tryz.func157 rfl).trans (by cbv)
def aiC:=(li Tryz.func158 rfl).trans (by cbv)
def V7:=(li Tryz.func159 rfl).trans (by cbv)
def FZ:List KO:=rk (aG 159) 1
def ow:=(by have h:=(je V7 1).trans (by cbv);exact h:FZ=_)
def aaU:=(by have h:=V7;rewrite [<-ow]at h;exact h:aG 159=_)
def aiD:=(li Tryz.func160 rfl).trans (by cbv)
def aiE:=(li Tryz.func161 rfl).trans (by cbv)
def aiF:=(li Tryz.func162 rfl).trans (by cbv)
def V8:=(li Tryz.func163 rfl).trans (by cbv)
def IZ:List KO:=rk (aG 163) 1
def cf:=(by have h:=(je V8 1).trans (by cbv);rewrite [<-ai.eq_1]at h;exact h:IZ=_)
def NV:=(by have h:=V8;rewrite [<-ai.eq_1,<-cf]at h;exact h:aG 163=_)
def Vq:=(li Tryz.func164 rfl).trans (by cbv)
def Hu:List KO:=rk (aG 164) 1
def w6:=(by have h:=(je Vq 1).trans (by cbv);exact h:Hu=_)
def agP:=(by have h:=Vq;rewrite [<-w6]at h;exact h:aG 164=_)
def Vr:=(li Tryz.func165 rfl).trans (by cbv)
def FT:List KO:=rk (aG 165) 1
def oj:=(by have h:=(je Vr 1).trans (by cbv);exact h:FT=_)
def agR:=(by have h:=Vr;rewrite [<-oj]at h;exact h:aG 165=_)
def agY:=(li Tryz.func166 rfl).trans (by cbv)
def Vs:=(li Tryz.func167 rfl).trans (by cbv)
def w8:KC:=oK (aG 167) 0
def dT:=(by have h:=(gL Vs 0).trans (by cbv);exact h:w8=_)
def agZ:=(by have h:=Vs;rewrite [<-dT]at h;exact h:aG 167=_)
def ag0:=(li Tryz.func168 rfl).trans (by cbv)
def Vt:=(li Tryz.func170 rfl).trans (by cbv)
def qI:KC:=oK (aG 170) 0
def fV:=(by have h:=(gL Vt 0).trans (by cbv);exact h:qI=_)
def ag1:=(by have h:=Vt;rewrite [<-fV]at h;exact h:aG 170=_)
def mS:List KO:=[iu 7 0 1,hD 8 7,fB 9 (tU .lss 8 1),jO 10 9,mh 11 10 (vn 0 1),y8 12 10 (wS 11),mh 13 10 (tU .gtr 12 6),fB 14 (FL 10 13),jO 15 14,mh 16 15 (vn 1 1),y8 17 15 (wS 16),mh 18 15 (Cs 17),mh 19 15 (tU .gtr 18 8),fB 20 (FL 15 19),jO 21 20,mh 22 21 (vn 0 1),y8 23 21 (wS 22),mh 24 21 (tU .neq 23 4),FK 25 21 24,xu 26 25 (vn 0 1),JT 27 25 (wS 26),xu 28 25 (tU .neq 27 5),mh 29 21 (Px 25 28),FK 30 21 29,xu 31 30 (vn 1 1),JT 32 30 (wS 31),xu 33 30 (Cs 32),xu 34 30 (tU .gtr 33 0),mh 35 21 (Px 30 34),fB 36 (FL 21 35),jO 37 36,mh 38 37 (vn 0 1),y8 39 37 (wS 38),mh 40 37 (tU .eql 39 4),FK 41 37 40,xu 42 41 (vn 1 1),JT 43 41 (wS 42),xu 44 41 (Cs 43),xu 45 41 (tU .eql 44 0),mh 46 37 (Px 41 45),fB 47 (FL 37 46)]
def wv:=mS.eq_1
def qJ:List KD:=[eF (iu 81 1 1) 0 0,eF (hD 82 81) 0 0,eF (jO 83 4) 0 0,eF (fB 84 (D1 1 82 83)) 0 0,eF (hD 85 84) 0 0,eF (iu 86 1 1) 0 0,eF (hD 87 86) 0 0,eF (jO 88 5) 0 0,eF (fB 89 (D1 1 87 88)) 0 0,eF (hD 90 89) 0 0,eF (fB 91 (.IJ .eql (.t 85) (.t 90))) 0 0,eF (jO 92 91) 0 0,eF (mh 93 92 (vn 0 1)) 0 0,eF (y8 94 92 (wS 93)) 0 0,eF (mh 95 92 (tU .eql 94 5)) 0 0,eF (FK 96 92 95) 0 0,eF (xu 97 96 (vn 1 1)) 0 0,eF (JT 98 96 (wS 97)) 0 0,eF (q_x 99 96 4) 0 0,eF (xu 100 96 (D1 1 98 99)) 0 0,eF (JT 101 96 (wS 100)) 0 0,eF (xu 102 96 (vn 1 1)) 0 0,eF (JT 103 96 (wS 102)) 0 0,eF (q_x 104 96 5) 0 0,eF (xu 105 96 (D1 1 103 104)) 0 0,eF (JT 106 96 (wS 105)) 0 0,eF (xu 107 96 (.IJ .lss (.t 101) (.t 106))) 0 0,eF (mh 108 92 (Px 96 107)) 0 0,eF (fB 109 (FL 92 108)) 0 0]
def ju:=qJ.eq_1
def mT:KC:=.dJ [1,4,5] (.Q (nv [jO 76 5,jO 77 4,fB 78 (IC .lss 76 77)] (.cond (.t 78) .skip (.dJ [1,4] (.exit 2)))) (.Q (.block 3 (.Q (.draw [] qJ) (.dJ [1,4,5,109] (rm 109 (nv [fB 2 (vK (.B false))] (FM [2])))))) (.ops [jO 79 5,fB 80 (tU .add 79 1),jO 5 80])))
def fW:=mT.eq_1
def j8:KC:=.dJ [1,4] (.Q (nv [jO 62 4,iu 63 1 1,hD 64 63,fB 65 (Cs 64),fB 66 (IC .lss 62 65)] (.cond (.t 66) .skip (.dJ [1] (.exit 0)))) (.Q (.block 1 (.Q (nv [iu 69 1 1,hD 70 69,jO 71 4,fB 72 (D1 1 70 71),hD 73 72,tx 74 (Ha 94 [73]),fB 75 (SM 74)] (rm 75 (nv [fB 2 (vK (.B false))] (FM [2])))) (nv [fB 5 (vK (.I .i64 0))] (.block 2 (.L mT))))) (.ops [jO 67 4,fB 68 (tU .add 67 1),jO 4 68])))
def cL:=j8.eq_1
def mV:KC:=.dJ [1,6] (.Q (nv [jO 110 6,iu 111 2 1,hD 112 111,fB 113 (Cs 112),fB 114 (IC .lss 110 113)] (.cond (.t 114) .skip (.dJ [] (.exit 4)))) (.Q (.block 5 (nv [iu 117 2 1,hD 118 117,jO 119 6,fB 120 (D1 3 118 119),tx 121 (uh 3 120),tx 122 (Ha 171 [121]),fB 123 (SM 122)] (rm 123 (nv [fB 2 (vK (.B false))] (FM [2]))))) (.ops [jO 115 6,fB 116 (tU .add 115 1),jO 6 116])))
def d_:=mV.eq_1
def ag2:aG 171=some ⟨124,nv [tx 1 (q_b 3 0),fB 2 (vK (.B false))] (.Q (nv mS (.dJ [1,47] (rm 47 (nv [fB 2 (vK (.B false))] (FM [2]))))) (nv [fB 3 (vK (.I .i64 0))] (.Q (nv [iu 48 0 1,hD 49 48,fB 50 (tU .eql 49 5)] (rm 50 (.ops [iu 51 1 1,hD 52 51,fB 53 (Cs 52),jO 3 53]))) (.Q (nv [iu 54 0 1,hD 55 54,fB 56 (tU .eql 55 6)] (rm 56 (.ops [fB 3 (vK (.I .i64 1))]))) (.Q (nv [iu 57 2 1,hD 58 57,fB 59 (Cs 58),jO 60 3,fB 61 (IC .neq 59 60)] (rm 61 (nv [fB 2 (vK (.B false))] (FM [2])))) (.Q (nv [fB 4 (vK (.I .i64 0))] (.block 0 (.L j8))) (.Q (nv [fB 6 (vK (.I .i64 0))] (.block 4 (.L mV))) (nv [fB 2 (vK (.B true))] (FM [2]))))))))),[.tmp 2]⟩:=(li Tryz.func171 rfl).trans (by kernel_rfl)
end
end Go.Proofs.YteipnkjhnbaipaaGreatDoor.am
