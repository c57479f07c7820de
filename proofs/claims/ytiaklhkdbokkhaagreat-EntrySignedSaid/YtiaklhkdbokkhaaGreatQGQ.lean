/- Parts. No condition. -/
import Derived.KernelRfl
import Derived.Test.YtiaklhkdbokkhaaGreatQGP
set_option linter.all false
namespace Go.Proofs.YtiaklhkdbokkhaaGreat.am
open Go
open Option renaming some->J,none->M
open Bool renaming false->O,true->G
open Go.IntKind renaming i64->Y,u64->U
open Decidable renaming decide->b_
open Go renaming FuncId->eS
open Go.Proofs.YtiaklhkdbokkhaaGreat.am renaming bm->H
noncomputable section
set_option maxRecDepth 100000
set_option maxHeartbeats 0
def ahL:=(li Tryz.func86 rfl).trans (by cbv)
def F1:KC:=kQ (ay 86) 0
def pV:=(by have h:=(dP ahL 0).trans (by cbv);rewrite [<-oO.eq_1,<-ah.eq_1]at h;exact h:F1=_)
def F2:KC:=kQ (ay 86) 1
def kJ:=(by have h:=(dP ahL 1).trans (by cbv);rewrite [<-aE.eq_1]at h;exact h:F2=_)
def aE9:=(by have h:=ahL;rewrite [<-aE.eq_1,<-oO.eq_1,<-ah.eq_1,<-pV,<-kJ]at h;exact h:ay 86=_)
def azi:=(li Tryz.func87 rfl).trans (by cbv)
def aE_:=(by have h:=azi;rewrite [<-aP.eq_1]at h;exact h:ay 87=_)
def aFa:=(li Tryz.func88 rfl).trans (by cbv)
def ahM:=(li Tryz.func89 rfl).trans (by cbv)
def vh:KC:=kQ (ay 89) 0
def iB:=(by have h:=(dP ahM 0).trans (by cbv);exact h:vh=_)
def vj:KC:=kQ (ay 89) 1
def jR:=(by have h:=(dP ahM 1).trans (by cbv);rewrite [<-iB]at h;exact h:vj=_)
def aFb:=(by have h:=ahM;rewrite [<-cO.eq_1,<-iB,<-jR]at h;exact h:ay 89=_)
def aop:=(li Tryz.func90 rfl).trans (by cbv)
def F3:KC:=kQ (ay 90) 0
def mn:=(by have h:=(dP aop 0).trans (by cbv);exact h:F3=_)
def aFc:=(by have h:=aop;rewrite [<-mn]at h;exact h:ay 90=_)
def aoq:=(li Tryz.func91 rfl).trans (by cbv)
def l_:KC:=kQ (ay 91) 0
def iV:=(by have h:=(dP aoq 0).trans (by cbv);exact h:l_=_)
def azj:=(by have h:=aoq;rewrite [<-iV]at h;exact h:ay 91=_)
def aor:=(li Tryz.func92 rfl).trans (by cbv)
def vk:KC:=kQ (ay 92) 0
def jS:=(by have h:=(dP aor 0).trans (by cbv);exact h:vk=_)
def aFd:=(by have h:=aor;rewrite [<-aP.eq_1,<-jS]at h;exact h:ay 92=_)
def azk:=(li Tryz.func93 rfl).trans (by cbv)
def azl:=(by have h:=azk;rewrite [<-fX.eq_1]at h;exact h:ay 93=_)
def aFe:=(li Tryz.func94 rfl).trans (by cbv)
def azm:=(li Tryz.func95 rfl).trans (by cbv)
def aFf:=(by have h:=azm;rewrite [<-fX.eq_1]at h;exact h:ay 95=_)
def aFg:=(li Tryz.func96 rfl).trans (by cbv)
def aFh:=(li Tryz.func97 rfl).trans (by cbv)
def aos:=(li Tryz.func98 rfl).trans (by cbv)
def HC:KC:=kQ (ay 98) 0
def qP:=(by have h:=(dP aos 0).trans (by cbv);rewrite [<-fX.eq_1]at h;exact h:HC=_)
def aFi:=(by have h:=aos;rewrite [<-fX.eq_1,<-qP]at h;exact h:ay 98=_)
def azn:=(li Tryz.func99 rfl).trans (by cbv)
def aFj:=(by have h:=azn;rewrite [<-ah.eq_1]at h;exact h:ay 99=_)
def ahN:=(li Tryz.func100 rfl).trans (by cbv)
def QJ:List KO:=yc (ay 100) 15
def ou:=(by have h:=(nh ahN 15).trans (by cbv);rewrite [<-fX.eq_1]at h;exact h:QJ=_)
def Xo:=(by have h:=ahN;rewrite [<-aE.eq_1,<-fX.eq_1,<-ou]at h;exact h:ay 100=_)
def azo:=(li Tryz.func101 rfl).trans (by cbv)
def ahO:=(li Tryz.func102 rfl).trans (by cbv)
def MK:KC:=kQ (ay 102) 0
def oS:=(by have h:=(dP ahO 0).trans (by cbv);rewrite [<-fX.eq_1]at h;exact h:MK=_)
def azp:=(by have h:=ahO;rewrite [<-fX.eq_1,<-oS]at h;exact h:ay 102=_)
def awG:=(li Tryz.func103 rfl).trans (by cbv)
def aqX:=(li Tryz.func104 rfl).trans (by cbv)
def awp:=(by have h:=aqX;rewrite [<-gU.eq_1]at h;exact h:ay 104=_)
def aqY:=(li Tryz.func105 rfl).trans (by cbv)
def Sn:=(by have h:=aqY;rewrite [<-gU.eq_1]at h;exact h:ay 105=_)
def ahP:=(li Tryz.func106 rfl).trans (by cbv)
def z7:KC:=kQ (ay 106) 0
def mU:=(by have h:=(dP ahP 0).trans (by cbv);exact h:z7=_)
def av_:=(by have h:=ahP;rewrite [<-gU.eq_1,<-mU]at h;exact h:ay 106=_)
def aqZ:=(li Tryz.func107 rfl).trans (by cbv)
def aws:=(by have h:=aqZ;rewrite [<-aP.eq_1,<-gU.eq_1]at h;exact h:ay 107=_)
def ahQ:=(li Tryz.func108 rfl).trans (by cbv)
def z5:KC:=kQ (ay 108) 0
def mT:=(by have h:=(dP ahQ 0).trans (by cbv);exact h:z5=_)
def av8:=(by have h:=ahQ;rewrite [<-gU.eq_1,<-mT]at h;exact h:ay 108=_)
def aq0:=(li Tryz.func109 rfl).trans (by cbv)
def awT:=(by have h:=aq0;rewrite [<-gU.eq_1]at h;exact h:ay 109=_)
def aq1:=(li Tryz.func110 rfl).trans (by cbv)
def awU:=(by have h:=aq1;rewrite [<-gU.eq_1]at h;exact h:ay 110=_)
def ahR:=(li Tryz.func111 rfl).trans (by cbv)
def wc:KC:=kQ (ay 111) 0
def iW:=(by have h:=(dP ahR 0).trans (by cbv);exact h:wc=_)
def azq:=(by have h:=ahR;rewrite [<-iW]at h;exact h:ay 111=_)
def Z3:=(li Tryz.func112 rfl).trans (by cbv)
def CO:List KO:=yc (ay 112) 1
def cS:=(by have h:=(nh Z3 1).trans (by cbv);exact h:CO=_)
def CP:List KO:=yc (ay 112) 3
def eF:=(by have h:=(nh Z3 3).trans (by cbv);rewrite [<-ah.eq_1]at h;exact h:CP=_)
def azr:=(by have h:=Z3;rewrite [<-ah.eq_1,<-cS,<-eF]at h;exact h:ay 112=_)
def we:List KO:=[eG 7 0 2,dt 8 7,eG 9 0 3,dt 10 9,cz 11 (qe .neq 8 10),ez 12 11,pJ 13 12 (Ah 1 2),DW 14 12 (BB 13),pJ 15 12 (Ah 1 3),DW 16 12 (BB 15),pJ 17 12 (.Ql .neq (.t 14) (.t 16)),cz 18 (Mu 12 17),ez 19 18,pJ 20 19 (Ah 2 2),DW 21 19 (BB 20),pJ 22 19 (Ah 2 3),DW 23 19 (BB 22),pJ 24 19 (.Ql .neq (.t 21) (.t 23)),cz 25 (Mu 19 24),ez 26 25,pJ 27 26 (Ah 3 2),DW 28 26 (dW 3 27),pJ 29 26 (Ah 3 3),DW 30 26 (dW 3 29),DW 31 26 (qB 193 [28,30]),pJ 32 26 (q_U 31),cz 33 (Mu 26 32),ez 34 33,pJ 35 34 (Ah 6 2),DW 36 34 (dW 6 35),pJ 37 34 (Ah 6 3),DW 38 34 (dW 6 37),DW 39 34 (qB 192 [36,38]),pJ 40 34 (q_U 39),cz 41 (Mu 34 40),ez 42 41,pJ 43 42 (Ah 12 2),DW 44 42 (dW 6 43),pJ 45 42 (Ah 12 3),DW 46 42 (dW 6 45),DW 47 42 (qB 192 [44,46]),pJ 48 42 (q_U 47),cz 49 (Mu 42 48),ez 50 49,pJ 51 50 (Ah 18 2),DW 52 50 (BB 51),pJ 53 50 (Hp 52),pJ 54 50 (Ah 18 3),DW 55 50 (BB 54),pJ 56 50 (Hp 55),pJ 57 50 (qe .neq 53 56),cz 58 (Mu 50 57),ez 59 58,pJ 60 59 (Ah 19 2),DW 61 59 (BB 60),pJ 62 59 (Hp 61),pJ 63 59 (Ah 19 3),DW 64 59 (BB 63),pJ 65 59 (Hp 64),pJ 66 59 (qe .neq 62 65),cz 67 (Mu 59 66)]
def eL:=we.eq_1
def wg:List KD:=[H (eG 75 18 2) 0 0,H (dt 76 75) 0 0,H (ez 77 5) 0 0,H (cz 78 (Ef 12 76 77)) 0 0,H (eG 79 0 78) 0 0,H (dY 80 (dW 6 79)) 0 0,H (eG 81 18 3) 0 0,H (dt 82 81) 0 0,H (ez 83 5) 0 0,H (cz 84 (Ef 12 82 83)) 0 0,H (eG 85 0 84) 0 0,H (dY 86 (dW 6 85)) 0 0,mJ (dY 87 (qB 192 [80,86])) 0 1,H (cz 88 (q_U 87)) 1 1,H (ez 89 88) 1 1,H (pJ 90 89 (Ah 18 2)) 1 1,H (DW 91 89 (BB 90)) 1 1,H (Mt 92 89 5) 1 1,H (pJ 93 89 (Ef 12 91 92)) 1 1,H (pJ 94 89 (Ah 6 93)) 1 1,H (DW 95 89 (dW 6 94)) 1 1,H (pJ 96 89 (Ah 18 3)) 1 1,H (DW 97 89 (BB 96)) 1 1,H (Mt 98 89 5) 1 1,H (pJ 99 89 (Ef 12 97 98)) 1 1,H (pJ 100 89 (Ah 6 99)) 1 1,H (DW 101 89 (dW 6 100)) 1 1,mJ (DW 102 89 (qB 192 [95,101])) 1 2,H (pJ 103 89 (q_U 102)) 2 2,H (cz 104 (Mu 89 103)) 2 2]
def m6:=wg.eq_1
def qX:KC:=.dO [2,3,5] (.Q (lW [ez 68 5,eG 69 18 2,dt 70 69,cz 71 (Hp 70),cz 72 (qe .lss 68 71)] (.cond (.t 72) .skip (.dO [2,3] (.exit 0)))) (.Q (.block 1 (.Q (.draw [] wg) (.dO [2,3,5,104] (uz 104 (lW [cz 4 (wm (.B O))] (Im [4])))))) (.ops [ez 73 5,cz 74 (rz .add 73 1),ez 5 74])))
def m5:=qX.eq_1
def qY:KC:=.dO [2,3,6] (.Q (lW [ez 105 6,eG 106 19 2,dt 107 106,cz 108 (Hp 107),cz 109 (qe .lss 105 108)] (.cond (.t 109) .skip (.dO [] (.exit 2)))) (.Q (.block 3 (.Q (.draw [] [H (eG 112 19 2) 0 0,H (dt 113 112) 0 0,H (ez 114 6) 0 0,H (cz 115 (Ef 20 113 114)) 0 0,H (dY 116 (dW 20 115)) 0 0,H (eG 117 19 3) 0 0,H (dt 118 117) 0 0,H (ez 119 6) 0 0,H (cz 120 (Ef 20 118 119)) 0 0,H (dY 121 (dW 20 120)) 0 0,mJ (dY 122 (qB 113 [116,121])) 0 1,H (cz 123 (q_U 122)) 1 1]) (uz 123 (lW [cz 4 (wm (.B O))] (Im [4]))))) (.ops [ez 110 6,cz 111 (rz .add 110 1),ez 6 111])))
def m7:=qY.eq_1
def avP:ay 113=J ⟨124,lW [dY 2 (YV 20 0),dY 3 (YV 20 1),cz 4 (wm (.B O))] (.Q (lW we (.dO [2,3,67] (uz 67 (lW [cz 4 (wm (.B O))] (Im [4]))))) (.Q (lW [cz 5 (wm (.I Y 0))] (.block 0 (.L qX))) (.Q (lW [cz 6 (wm (.I Y 0))] (.block 2 (.L qY))) (lW [cz 4 (wm (.B G))] (Im [4]))))),[.tmp 4]⟩:=(li Tryz.func113 rfl).trans (by kernel_rfl)
def aw_:=(li Tryz.func114 rfl).trans (by cbv)
def ahS:=(li Tryz.func115 rfl).trans (by cbv)
def D7:List KO:=yc (ay 115) 1
def iP:=(by have h:=(nh ahS 1).trans (by cbv);exact h:D7=_)
def avQ:=(by have h:=ahS;rewrite [<-iP]at h;exact h:ay 115=_)
def ahT:=(li Tryz.func116 rfl).trans (by cbv)
def wh:KC:=kQ (ay 116) 0
def iX:=(by have h:=(dP ahT 0).trans (by cbv);exact h:wh=_)
def azs:=(by have h:=ahT;rewrite [<-iX]at h;exact h:ay 116=_)
def ahU:=(li Tryz.func117 rfl).trans (by cbv)
def xI:KC:=kQ (ay 117) 0
def lj:=(by have h:=(dP ahU 0).trans (by cbv);exact h:xI=_)
def azt:=(by have h:=ahU;rewrite [<-cx.eq_1,<-lj]at h;exact h:ay 117=_)
def aq2:=(li Tryz.func118 rfl).trans (by cbv)
def azu:=(by have h:=aq2;rewrite [<-cx.eq_1]at h;exact h:ay 118=_)
def aq3:=(li Tryz.func119 rfl).trans (by cbv)
def azv:=(by have h:=aq3;rewrite [<-fN.eq_1,<-cx.eq_1]at h;exact h:ay 119=_)
def aq4:=(li Tryz.func120 rfl).trans (by cbv)
def azw:=(by have h:=aq4;rewrite [<-cx.eq_1]at h;exact h:ay 120=_)
def aq5:=(li Tryz.func121 rfl).trans (by cbv)
def azx:=(by have h:=aq5;rewrite [<-cx.eq_1]at h;exact h:ay 121=_)
def K4:=(li Tryz.func122 rfl).trans (by cbv)
def xJ:KC:=kQ (ay 122) 0
def jo:=(by have h:=(dP K4 0).trans (by cbv);exact h:xJ=_)
def xK:KC:=kQ (ay 122) 1
def lq:=(by have h:=(dP K4 1).trans (by cbv);rewrite [<-jo]at h;exact h:xK=_)
def xL:KC:=kQ (ay 122) 2
def lr:=(by have h:=(dP K4 2).trans (by cbv);exact h:xL=_)
def xM:KC:=kQ (ay 122) 3
def jq:=(by have h:=(dP K4 3).trans (by cbv);exact h:xM=_)
def xO:KC:=kQ (ay 122) 4
def ly:=(by have h:=(dP K4 4).trans (by cbv);rewrite [<-jq]at h;exact h:xO=_)
def azy:=(by have h:=K4;rewrite [<-Mc.eq_1,<-cx.eq_1,<-jo,<-lq,<-lr,<-jq,<-ly]at h;exact h:ay 122=_)
def aq6:=(li Tryz.func123 rfl).trans (by cbv)
def azz:=(by have h:=aq6;rewrite [<-cx.eq_1]at h;exact h:ay 123=_)
def aq7:=(li Tryz.func124 rfl).trans (by cbv)
def azA:=(by have h:=aq7;rewrite [<-cx.eq_1]at h;exact h:ay 124=_)
def ahV:=(li Tryz.func125 rfl).trans (by cbv)
def xQ:KC:=kQ (ay 125) 0
def lC:=(by have h:=(dP ahV 0).trans (by cbv);exact h:xQ=_)
def azB:=(by have h:=ahV;rewrite [<-cx.eq_1,<-lC]at h;exact h:ay 125=_)
def ahW:=(li Tryz.func126 rfl).trans (by cbv)
def rk:KC:=kQ (ay 126) 0
def eO:=(by have h:=(dP ahW 0).trans (by cbv);exact h:rk=_)
def azC:=(by have h:=ahW;rewrite [<-eO]at h;exact h:ay 126=_)
def ahX:=(li Tryz.func127 rfl).trans (by cbv)
def ua:KC:=kQ (ay 127) 0
def jw:=(by have h:=(dP ahX 0).trans (by cbv);exact h:ua=_)
def azD:=(by have h:=ahX;rewrite [<-jw]at h;exact h:ay 127=_)
def azE:=(li Tryz.func128 rfl).trans (by cbv)
def aq8:=(li Tryz.func129 rfl).trans (by cbv)
def azF:=(by have h:=aq8;rewrite [<-aP.eq_1]at h;exact h:ay 129=_)
def aq9:=(li Tryz.func130 rfl).trans (by cbv)
def azG:=(by have h:=aq9;rewrite [<-bR.eq_1]at h;exact h:ay 130=_)
def aq_:=(li Tryz.func131 rfl).trans (by cbv)
def azH:=(by have h:=aq_;rewrite [<-cx.eq_1]at h;exact h:ay 131=_)
def ahY:=(li Tryz.func132 rfl).trans (by cbv)
def vm:KC:=kQ (ay 132) 0
def jT:=(by have h:=(dP ahY 0).trans (by cbv);exact h:vm=_)
def azI:=(by have h:=ahY;rewrite [<-aP.eq_1,<-jT]at h;exact h:ay 132=_)
def azJ:=(li Tryz.func133 rfl).trans (by cbv)
def ahZ:=(li Tryz.func134 rfl).trans (by cbv)
def vn:KC:=kQ (ay 134) 0
def gg:=(by have h:=(dP ahZ 0).trans (by cbv);exact h:vn=_)
def azK:=(by have h:=ahZ;rewrite [<-gg]at h;exact h:ay 134=_)
def azL:=(li Tryz.func135 rfl).trans (by cbv)
def azM:=(li Tryz.func136 rfl).trans (by cbv)
def ah0:=(li Tryz.func137 rfl).trans (by cbv)
def vp:KC:=kQ (ay 137) 0
def eX:=(by have h:=(dP ah0 0).trans (by cbv);exact h:vp=_)
def azN:=(by have h:=ah0;rewrite [<-eX]at h;exact h:ay 137=_)
def azO:=(li Tryz.func138 rfl).trans (by cbv)
def aw7:=(li Tryz.func139 rfl).trans (by cbv)
def aw8:=(li Tryz.func140 rfl).trans (by cbv)
def ah1:=(li Tryz.func141 rfl).trans (by cbv)
def vq:KC:=kQ (ay 141) 0
def dR:=(by have h:=(dP ah1 0).trans (by cbv);exact h:vq=_)
def azP:=(by have h:=ah1;rewrite [<-dR]at h;exact h:ay 141=_)
def ZS:=(li Tryz.func142 rfl).trans (by cbv)
def qZ:KC:=kQ (ay 142) 0
def iR:=(by have h:=(dP ZS 0).trans (by cbv);exact h:qZ=_)
def vW:KC:=kQ (ay 142) 1
def kC:=(by have h:=(dP ZS 1).trans (by cbv);exact h:vW=_)
def aw0:=(by have h:=ZS;rewrite [<-iR,<-kC]at h;exact h:ay 142=_)
def axw:=(li Tryz.func143 rfl).trans (by cbv)
def axx:=(li Tryz.func144 rfl).trans (by cbv)
def agW:=(li Tryz.func145 rfl).trans (by cbv)
def O4:List KO:=yc (ay 145) 1
def mb:=(by have h:=(nh agW 1).trans (by cbv);exact h:O4=_)
def avH:=(by have h:=agW;rewrite [<-mb]at h;exact h:ay 145=_)
def axy:=(li Tryz.func146 rfl).trans (by cbv)
def agX:=(li Tryz.func147 rfl).trans (by cbv)
def ME:List KO:=yc (ay 147) 1
def uJ:=(by have h:=(nh agX 1).trans (by cbv);exact h:ME=_)
def avI:=(by have h:=agX;rewrite [<-uJ]at h;exact h:ay 147=_)
def agY:=(li Tryz.func148 rfl).trans (by cbv)
def p7:KC:=kQ (ay 148) 0
def gm:=(by have h:=(dP agY 0).trans (by cbv);rewrite [<-oO.eq_1]at h;exact h:p7=_)
def avE:=(by have h:=agY;rewrite [<-oO.eq_1,<-gm]at h;exact h:ay 148=_)
def avJ:=(li Tryz.func149 rfl).trans (by cbv)
def agZ:=(li Tryz.func150 rfl).trans (by cbv)
def p8:KC:=kQ (ay 150) 0
def gp:=(by have h:=(dP agZ 0).trans (by cbv);rewrite [<-aE.eq_1]at h;exact h:p8=_)
def avF:=(by have h:=agZ;rewrite [<-aE.eq_1,<-gp]at h;exact h:ay 150=_)
def ZT:=(li Tryz.func151 rfl).trans (by cbv)
def O5:List KO:=yc (ay 151) 2
def gG:=(by have h:=(nh ZT 2).trans (by cbv);exact h:O5=_)
def O6:List KO:=yc (ay 151) 11
def wD:=(by have h:=(nh ZT 11).trans (by cbv);exact h:O6=_)
def an4:=(by have h:=ZT;rewrite [<-gG,<-wD]at h;exact h:ay 151=_)
def ag0:=(li Tryz.func152 rfl).trans (by cbv)
def sB:KC:=kQ (ay 152) 0
def iK:=(by have h:=(dP ag0 0).trans (by cbv);exact h:sB=_)
def avz:=(by have h:=ag0;rewrite [<-iK]at h;exact h:ay 152=_)
def aqQ:=(li Tryz.func154 rfl).trans (by cbv)
def axz:=(by have h:=aqQ;rewrite [<-cO.eq_1]at h;exact h:ay 154=_)
def aqR:=(li Tryz.func155 rfl).trans (by cbv)
def axA:=(by have h:=aqR;rewrite [<-iE.eq_1]at h;exact h:ay 155=_)
def uV:KC:=.dO [1,2,3,6,7,18] (lW [cz 19 (rz .lss 18 80)] (.Q (.cond (.t 19) .skip (.dO [2,3,6,7] (.exit 0))) (.Q (.block 1 (lW [ez 20 18,ez 8 20] (.Q (lW [ez 21 8,cz 22 (rz .lss 21 16)] (uz 22 (lW [ez 23 8,ez 24 1,ez 25 8,cz 26 (.Qk .mul (yG 8) (.t 25)),ez 27 8,cz 28 (.Qk .mul (yG 8) (.t 27)),cz 29 (rz .add 28 8),cz 30 (.slL 1 (.t 24) (J (.t 26)) (J (.t 29))),dY 31 (qB 220 [30]),cz 32 (.IL 80 1 (.t 7) (.t 23)),GB (GC 1 32 31)] (.exit 1)))) (.Q (.draw [] [H (ez 33 8) 0 0,H (cz 34 (rz .sub 33 15)) 0 0,H (cz 35 (.IL 80 1 (.t 7) (.t 34))) 0 0,H (dt 36 35) 0 0,H (ez 37 8) 0 0,H (cz 38 (rz .sub 37 2)) 0 0,H (cz 39 (.IL 80 1 (.t 7) (.t 38))) 0 0,H (dt 40 39) 0 0,H (ez 9 36) 0 0,H (ez 10 40) 0 0]) (.draw [] [H (ez 41 8) 0 4,H (ez 42 8) 0 4,H (cz 43 (rz .sub 42 16)) 0 4,H (cz 44 (.IL 80 1 (.t 7) (.t 43))) 0 4,H (dt 45 44) 0 4,H (ez 46 9) 0 0,mJ (dY 47 (q_h 221 [.t 46,yG 1])) 0 1,H (ez 48 9) 0 1,mJ (dY 49 (q_h 221 [.t 48,yG 8])) 1 2,H (cz 50 (qe .xor 47 49)) 2 4,H (ez 51 9) 0 4,H (cz 52 (.Qk .shr (.t 51) (.c (.I U 7)))) 0 4,H (cz 53 (qe .xor 50 52)) 2 4,H (cz 54 (qe .add 45 53)) 2 4,H (ez 55 8) 0 4,H (cz 56 (rz .sub 55 7)) 0 4,H (cz 57 (.IL 80 1 (.t 7) (.t 56))) 0 4,H (dt 58 57) 0 4,H (cz 59 (qe .add 54 58)) 2 4,H (ez 60 10) 0 2,mJ (dY 61 (q_h 221 [.t 60,yG 19])) 2 3,H (ez 62 10) 0 3,mJ (dY 63 (q_h 221 [.t 62,yG 61])) 3 4,H (cz 64 (qe .xor 61 63)) 4 4,H (ez 65 10) 0 4,H (cz 66 (.Qk .shr (.t 65) (.c (.I U 6)))) 0 4,H (cz 67 (qe .xor 64 66)) 4 4,H (cz 68 (qe .add 59 67)) 4 4,H (cz 69 (.IL 80 1 (.t 7) (.t 41))) 4 4,mJ (GB (GC 1 69 68)) 4 5]))))) (.ops [cz 70 (rz .add 18 1),ez 18 70]))))
def lG:=uV.eq_1
def uW:KC:=.dO [2,3,6,7,11,72] (lW [cz 73 (rz .lss 72 80)] (.Q (.cond (.t 73) .skip (.dO [3,6,11] (.exit 2))) (.Q (.block 3 (lW [ez 74 72,ez 12 74] (.Q (.draw [] [H (cz 75 (.IL 8 1 (.t 11) (yG 0))) 0 0,H (dt 76 75) 0 0,H (cz 77 (.IL 8 1 (.t 11) (yG 4))) 0 0,H (dt 78 77) 0 0,H (ez 13 76) 0 0,H (ez 14 78) 0 0]) (.Q (.draw [] [H (cz 79 (.IL 8 1 (.t 11) (yG 7))) 0 3,H (dt 80 79) 0 3,H (ez 81 14) 0 0,mJ (dY 82 (q_h 221 [.t 81,yG 14])) 0 1,H (ez 83 14) 0 1,mJ (dY 84 (q_h 221 [.t 83,yG 18])) 1 2,H (cz 85 (qe .xor 82 84)) 2 3,H (ez 86 14) 0 2,mJ (dY 87 (q_h 221 [.t 86,yG 41])) 2 3,H (cz 88 (qe .xor 85 87)) 3 3,H (cz 89 (qe .add 80 88)) 3 3,H (ez 90 14) 0 3,H (cz 91 (.IL 8 1 (.t 11) (yG 5))) 0 3,H (dt 92 91) 0 3,H (cz 93 (qe .and 90 92)) 0 3,H (ez 94 14) 0 3,H (cz 95 (.un .xor (.t 94))) 0 3,H (cz 96 (.IL 8 1 (.t 11) (yG 6))) 0 3,H (dt 97 96) 0 3,H (cz 98 (qe .and 95 97)) 0 3,H (cz 99 (qe .xor 93 98)) 0 3,H (cz 100 (qe .add 89 99)) 3 3,H (ez 101 2) 0 3,H (ez 102 12) 0 3,H (cz 103 (q_N 101)) 0 3,H (cz 104 (.IL 80 1 (.t 103) (.t 102))) 0 3,H (dt 105 104) 0 3,H (cz 106 (qe .add 100 105)) 3 3,H (ez 107 12) 0 3,H (cz 108 (.IL 80 1 (.t 7) (.t 107))) 0 3,H (dt 109 108) 0 3,H (cz 110 (qe .add 106 109)) 3 3,H (ez 15 110) 3 3]) (.Q (.draw [] [H (ez 111 13) 0 0,mJ (dY 112 (q_h 221 [.t 111,yG 28])) 0 1,H (ez 113 13) 0 1,mJ (dY 114 (q_h 221 [.t 113,yG 34])) 1 2,H (cz 115 (qe .xor 112 114)) 2 3,H (ez 116 13) 0 2,mJ (dY 117 (q_h 221 [.t 116,yG 39])) 2 3,H (cz 118 (qe .xor 115 117)) 3 3,H (ez 119 13) 0 3,H (cz 120 (.IL 8 1 (.t 11) (yG 1))) 0 3,H (dt 121 120) 0 3,H (cz 122 (qe .and 119 121)) 0 3,H (ez 123 13) 0 3,H (cz 124 (.IL 8 1 (.t 11) (yG 2))) 0 3,H (dt 125 124) 0 3,H (cz 126 (qe .and 123 125)) 0 3,H (cz 127 (qe .xor 122 126)) 0 3,H (cz 128 (.IL 8 1 (.t 11) (yG 1))) 0 3,H (dt 129 128) 0 3,H (cz 130 (.IL 8 1 (.t 11) (yG 2))) 0 3,H (dt 131 130) 0 3,H (cz 132 (qe .and 129 131)) 0 3,H (cz 133 (qe .xor 127 132)) 0 3,H (cz 134 (qe .add 118 133)) 3 3,H (ez 16 134) 3 3]) (.ops [ez 135 15,ez 136 16,cz 137 (qe .add 135 136),cz 138 (.IL 8 1 (.t 11) (yG 0)),dt 139 138,cz 140 (.IL 8 1 (.t 11) (yG 1)),dt 141 140,cz 142 (.IL 8 1 (.t 11) (yG 2)),dt 143 142,cz 144 (.IL 8 1 (.t 11) (yG 3)),dt 145 144,ez 146 15,cz 147 (qe .add 145 146),cz 148 (.IL 8 1 (.t 11) (yG 4)),dt 149 148,cz 150 (.IL 8 1 (.t 11) (yG 5)),dt 151 150,cz 152 (.IL 8 1 (.t 11) (yG 6)),dt 153 152,cz 154 (.bld cO [(0,1,.t 137),(1,1,.t 139),(2,1,.t 141),(3,1,.t 143),(4,1,.t 147),(5,1,.t 149),(6,1,.t 151),(7,1,.t 153)]),GB (GC 8 11 154)])))))) (.ops [cz 155 (rz .add 72 1),ez 72 155]))))
def pB:=uW.eq_1
def uX:KC:=.dO [3,6,11,156] (lW [cz 157 (rz .lss 156 8)] (.Q (.cond (.t 157) .skip (.dO [3,6] (.exit 4))) (.Q (.block 5 (lW [ez 158 156,ez 17 158] (.draw [] [H (ez 159 17) 0 0,H (cz 160 (.IL 8 1 (.t 3) (.t 159))) 0 0,H (dt 161 160) 0 0,H (ez 162 17) 0 0,H (cz 163 (.IL 8 1 (.t 11) (.t 162))) 0 0,H (dt 164 163) 0 0,H (cz 165 (qe .add 161 164)) 0 0,H (cz 166 (.IL 8 1 (.t 3) (.t 159))) 0 0,mJ (GB (GC 1 166 165)) 0 1]))) (.ops [cz 167 (rz .add 156 1),ez 156 167]))))
def pC:=uX.eq_1
def axB:ay 156=J ⟨169,lW [dY 3 (YV 8 0),dY 6 (.alloc cO)] (lW [dY 7 (.alloc iE)] (.Q (lW [cz 18 (wm (.I Y 0))] (.block 0 (.L uV))) (lW [dY 71 (dW 8 3),dY 11 (.alloc cO),GB (GC 8 11 71)] (.Q (lW [cz 72 (wm (.I Y 0))] (.block 2 (.L uW))) (.Q (lW [cz 156 (wm (.I Y 0))] (.block 4 (.L uX))) (lW [dY 168 (dW 8 3),GB (GC 8 6 168)] (Im [6]))))))),[.C 6 (.A 8)]⟩:=(li Tryz.func156 rfl).trans (by kernel_rfl)
end
end Go.Proofs.YtiaklhkdbokkhaaGreat.am
