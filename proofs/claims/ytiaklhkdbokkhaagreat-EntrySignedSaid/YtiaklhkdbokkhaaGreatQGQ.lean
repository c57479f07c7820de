/- Parts. No condition. -/
import Derived.KernelRfl
import Derived.Test.YtiaklhkdbokkhaaGreatQGP
set_option linter.all false
namespace Go.Proofs.YtiaklhkdbokkhaaGreat.am
open Go
open Option renaming some->J,none->M
open Bool renaming false->O,true->G
open Go.IntKind renaming i64->Y,u64->U
open Decidable renaming decide->b_
open Go.Proofs.YtiaklhkdbokkhaaGreat.am renaming bm->H
noncomputable section
set_option maxRecDepth 100000
set_option maxHeartbeats 0
def ahK:=(li Tryz.func86 rfl).trans (by cbv)
def F0:KC:=kP (ax 86) 0
def pU:=(by have h:=(dP ahK 0).trans (by cbv);rewrite [<-oN.eq_1,<-ah.eq_1]at h;exact h:F0=_)
def F1:KC:=kP (ax 86) 1
def kI:=(by have h:=(dP ahK 1).trans (by cbv);rewrite [<-aE.eq_1]at h;exact h:F1=_)
def aE8:=(by have h:=ahK;rewrite [<-aE.eq_1,<-oN.eq_1,<-ah.eq_1,<-pU,<-kI]at h;exact h:ax 86=_)
def azh:=(li Tryz.func87 rfl).trans (by cbv)
def aE9:=(by have h:=azh;rewrite [<-aP.eq_1]at h;exact h:ax 87=_)
def aE_:=(li Tryz.func88 rfl).trans (by cbv)
def ahL:=(li Tryz.func89 rfl).trans (by cbv)
def vg:KC:=kP (ax 89) 0
def iA:=(by have h:=(dP ahL 0).trans (by cbv);exact h:vg=_)
def vh:KC:=kP (ax 89) 1
def jQ:=(by have h:=(dP ahL 1).trans (by cbv);rewrite [<-iA]at h;exact h:vh=_)
def aFa:=(by have h:=ahL;rewrite [<-cO.eq_1,<-iA,<-jQ]at h;exact h:ax 89=_)
def aoo:=(li Tryz.func90 rfl).trans (by cbv)
def F2:KC:=kP (ax 90) 0
def mm:=(by have h:=(dP aoo 0).trans (by cbv);exact h:F2=_)
def aFb:=(by have h:=aoo;rewrite [<-mm]at h;exact h:ax 90=_)
def aop:=(li Tryz.func91 rfl).trans (by cbv)
def lY:KC:=kP (ax 91) 0
def iU:=(by have h:=(dP aop 0).trans (by cbv);exact h:lY=_)
def azi:=(by have h:=aop;rewrite [<-iU]at h;exact h:ax 91=_)
def aoq:=(li Tryz.func92 rfl).trans (by cbv)
def vj:KC:=kP (ax 92) 0
def jR:=(by have h:=(dP aoq 0).trans (by cbv);exact h:vj=_)
def aFc:=(by have h:=aoq;rewrite [<-aP.eq_1,<-jR]at h;exact h:ax 92=_)
def azj:=(li Tryz.func93 rfl).trans (by cbv)
def azk:=(by have h:=azj;rewrite [<-fW.eq_1]at h;exact h:ax 93=_)
def aFd:=(li Tryz.func94 rfl).trans (by cbv)
def azl:=(li Tryz.func95 rfl).trans (by cbv)
def aFe:=(by have h:=azl;rewrite [<-fW.eq_1]at h;exact h:ax 95=_)
def aFf:=(li Tryz.func96 rfl).trans (by cbv)
def aFg:=(li Tryz.func97 rfl).trans (by cbv)
def aor:=(li Tryz.func98 rfl).trans (by cbv)
def HB:KC:=kP (ax 98) 0
def qO:=(by have h:=(dP aor 0).trans (by cbv);rewrite [<-fW.eq_1]at h;exact h:HB=_)
def aFh:=(by have h:=aor;rewrite [<-fW.eq_1,<-qO]at h;exact h:ax 98=_)
def azm:=(li Tryz.func99 rfl).trans (by cbv)
def aFi:=(by have h:=azm;rewrite [<-ah.eq_1]at h;exact h:ax 99=_)
def ahM:=(li Tryz.func100 rfl).trans (by cbv)
def QI:List KO:=yb (ax 100) 15
def ot:=(by have h:=(nd ahM 15).trans (by cbv);rewrite [<-fW.eq_1]at h;exact h:QI=_)
def Xn:=(by have h:=ahM;rewrite [<-aE.eq_1,<-fW.eq_1,<-ot]at h;exact h:ax 100=_)
def azn:=(li Tryz.func101 rfl).trans (by cbv)
def ahN:=(li Tryz.func102 rfl).trans (by cbv)
def MJ:KC:=kP (ax 102) 0
def oR:=(by have h:=(dP ahN 0).trans (by cbv);rewrite [<-fW.eq_1]at h;exact h:MJ=_)
def azo:=(by have h:=ahN;rewrite [<-fW.eq_1,<-oR]at h;exact h:ax 102=_)
def awF:=(li Tryz.func103 rfl).trans (by cbv)
def aqW:=(li Tryz.func104 rfl).trans (by cbv)
def awo:=(by have h:=aqW;rewrite [<-gS.eq_1]at h;exact h:ax 104=_)
def aqX:=(li Tryz.func105 rfl).trans (by cbv)
def Sm:=(by have h:=aqX;rewrite [<-gS.eq_1]at h;exact h:ax 105=_)
def ahO:=(li Tryz.func106 rfl).trans (by cbv)
def z5:KC:=kP (ax 106) 0
def mT:=(by have h:=(dP ahO 0).trans (by cbv);exact h:z5=_)
def av9:=(by have h:=ahO;rewrite [<-gS.eq_1,<-mT]at h;exact h:ax 106=_)
def aqY:=(li Tryz.func107 rfl).trans (by cbv)
def awr:=(by have h:=aqY;rewrite [<-aP.eq_1,<-gS.eq_1]at h;exact h:ax 107=_)
def ahP:=(li Tryz.func108 rfl).trans (by cbv)
def z4:KC:=kP (ax 108) 0
def mR:=(by have h:=(dP ahP 0).trans (by cbv);exact h:z4=_)
def av7:=(by have h:=ahP;rewrite [<-gS.eq_1,<-mR]at h;exact h:ax 108=_)
def aqZ:=(li Tryz.func109 rfl).trans (by cbv)
def awS:=(by have h:=aqZ;rewrite [<-gS.eq_1]at h;exact h:ax 109=_)
def aq0:=(li Tryz.func110 rfl).trans (by cbv)
def awT:=(by have h:=aq0;rewrite [<-gS.eq_1]at h;exact h:ax 110=_)
def ahQ:=(li Tryz.func111 rfl).trans (by cbv)
def wb:KC:=kP (ax 111) 0
def iV:=(by have h:=(dP ahQ 0).trans (by cbv);exact h:wb=_)
def azp:=(by have h:=ahQ;rewrite [<-iV]at h;exact h:ax 111=_)
def Z2:=(li Tryz.func112 rfl).trans (by cbv)
def CN:List KO:=yb (ax 112) 1
def cS:=(by have h:=(nd Z2 1).trans (by cbv);exact h:CN=_)
def CO:List KO:=yb (ax 112) 3
def eF:=(by have h:=(nd Z2 3).trans (by cbv);rewrite [<-ah.eq_1]at h;exact h:CO=_)
def azq:=(by have h:=Z2;rewrite [<-ah.eq_1,<-cS,<-eF]at h;exact h:ax 112=_)
def wc:List KO:=[eG 7 0 2,ds 8 7,eG 9 0 3,ds 10 9,cz 11 (qd .neq 8 10),ez 12 11,pI 13 12 (Ag 1 2),DU 14 12 (BA 13),pI 15 12 (Ag 1 3),DU 16 12 (BA 15),pI 17 12 (.Qk .neq (.t 14) (.t 16)),cz 18 (Mt 12 17),ez 19 18,pI 20 19 (Ag 2 2),DU 21 19 (BA 20),pI 22 19 (Ag 2 3),DU 23 19 (BA 22),pI 24 19 (.Qk .neq (.t 21) (.t 23)),cz 25 (Mt 19 24),ez 26 25,pI 27 26 (Ag 3 2),DU 28 26 (dW 3 27),pI 29 26 (Ag 3 3),DU 30 26 (dW 3 29),DU 31 26 (qA 193 [28,30]),pI 32 26 (q_U 31),cz 33 (Mt 26 32),ez 34 33,pI 35 34 (Ag 6 2),DU 36 34 (dW 6 35),pI 37 34 (Ag 6 3),DU 38 34 (dW 6 37),DU 39 34 (qA 192 [36,38]),pI 40 34 (q_U 39),cz 41 (Mt 34 40),ez 42 41,pI 43 42 (Ag 12 2),DU 44 42 (dW 6 43),pI 45 42 (Ag 12 3),DU 46 42 (dW 6 45),DU 47 42 (qA 192 [44,46]),pI 48 42 (q_U 47),cz 49 (Mt 42 48),ez 50 49,pI 51 50 (Ag 18 2),DU 52 50 (BA 51),pI 53 50 (Ho 52),pI 54 50 (Ag 18 3),DU 55 50 (BA 54),pI 56 50 (Ho 55),pI 57 50 (qd .neq 53 56),cz 58 (Mt 50 57),ez 59 58,pI 60 59 (Ag 19 2),DU 61 59 (BA 60),pI 62 59 (Ho 61),pI 63 59 (Ag 19 3),DU 64 59 (BA 63),pI 65 59 (Ho 64),pI 66 59 (qd .neq 62 65),cz 67 (Mt 59 66)]
def eL:=wc.eq_1
def we:List KD:=[H (eG 75 18 2) 0 0,H (ds 76 75) 0 0,H (ez 77 5) 0 0,H (cz 78 (Ee 12 76 77)) 0 0,H (eG 79 0 78) 0 0,H (dY 80 (dW 6 79)) 0 0,H (eG 81 18 3) 0 0,H (ds 82 81) 0 0,H (ez 83 5) 0 0,H (cz 84 (Ee 12 82 83)) 0 0,H (eG 85 0 84) 0 0,H (dY 86 (dW 6 85)) 0 0,mI (dY 87 (qA 192 [80,86])) 0 1,H (cz 88 (q_U 87)) 1 1,H (ez 89 88) 1 1,H (pI 90 89 (Ag 18 2)) 1 1,H (DU 91 89 (BA 90)) 1 1,H (Ms 92 89 5) 1 1,H (pI 93 89 (Ee 12 91 92)) 1 1,H (pI 94 89 (Ag 6 93)) 1 1,H (DU 95 89 (dW 6 94)) 1 1,H (pI 96 89 (Ag 18 3)) 1 1,H (DU 97 89 (BA 96)) 1 1,H (Ms 98 89 5) 1 1,H (pI 99 89 (Ee 12 97 98)) 1 1,H (pI 100 89 (Ag 6 99)) 1 1,H (DU 101 89 (dW 6 100)) 1 1,mI (DU 102 89 (qA 192 [95,101])) 1 2,H (pI 103 89 (q_U 102)) 2 2,H (cz 104 (Mt 89 103)) 2 2]
def m5:=we.eq_1
def qW:KC:=.dO [2,3,5] (.Q (lV [ez 68 5,eG 69 18 2,ds 70 69,cz 71 (Ho 70),cz 72 (qd .lss 68 71)] (.cond (.t 72) .skip (.dO [2,3] (.exit 0)))) (.Q (.block 1 (.Q (.draw [] we) (.dO [2,3,5,104] (ux 104 (lV [cz 4 (wj (.B O))] (Il [4])))))) (.ops [ez 73 5,cz 74 (rq .add 73 1),ez 5 74])))
def m0:=qW.eq_1
def qX:KC:=.dO [2,3,6] (.Q (lV [ez 105 6,eG 106 19 2,ds 107 106,cz 108 (Ho 107),cz 109 (qd .lss 105 108)] (.cond (.t 109) .skip (.dO [] (.exit 2)))) (.Q (.block 3 (.Q (.draw [] [H (eG 112 19 2) 0 0,H (ds 113 112) 0 0,H (ez 114 6) 0 0,H (cz 115 (Ee 20 113 114)) 0 0,H (dY 116 (dW 20 115)) 0 0,H (eG 117 19 3) 0 0,H (ds 118 117) 0 0,H (ez 119 6) 0 0,H (cz 120 (Ee 20 118 119)) 0 0,H (dY 121 (dW 20 120)) 0 0,mI (dY 122 (qA 113 [116,121])) 0 1,H (cz 123 (q_U 122)) 1 1]) (ux 123 (lV [cz 4 (wj (.B O))] (Il [4]))))) (.ops [ez 110 6,cz 111 (rq .add 110 1),ez 6 111])))
def m6:=qX.eq_1
def avO:ax 113=J ⟨124,lV [dY 2 (YU 20 0),dY 3 (YU 20 1),cz 4 (wj (.B O))] (.Q (lV wc (.dO [2,3,67] (ux 67 (lV [cz 4 (wj (.B O))] (Il [4]))))) (.Q (lV [cz 5 (wj (.I Y 0))] (.block 0 (.L qW))) (.Q (lV [cz 6 (wj (.I Y 0))] (.block 2 (.L qX))) (lV [cz 4 (wj (.B G))] (Il [4]))))),[.tmp 4]⟩:=(li Tryz.func113 rfl).trans (by kernel_rfl)
def aw9:=(li Tryz.func114 rfl).trans (by cbv)
def ahR:=(li Tryz.func115 rfl).trans (by cbv)
def D6:List KO:=yb (ax 115) 1
def iO:=(by have h:=(nd ahR 1).trans (by cbv);exact h:D6=_)
def avP:=(by have h:=ahR;rewrite [<-iO]at h;exact h:ax 115=_)
def ahS:=(li Tryz.func116 rfl).trans (by cbv)
def wg:KC:=kP (ax 116) 0
def iW:=(by have h:=(dP ahS 0).trans (by cbv);exact h:wg=_)
def azr:=(by have h:=ahS;rewrite [<-iW]at h;exact h:ax 116=_)
def ahT:=(li Tryz.func117 rfl).trans (by cbv)
def xH:KC:=kP (ax 117) 0
def lg:=(by have h:=(dP ahT 0).trans (by cbv);exact h:xH=_)
def azs:=(by have h:=ahT;rewrite [<-cx.eq_1,<-lg]at h;exact h:ax 117=_)
def aq1:=(li Tryz.func118 rfl).trans (by cbv)
def azt:=(by have h:=aq1;rewrite [<-cx.eq_1]at h;exact h:ax 118=_)
def aq2:=(li Tryz.func119 rfl).trans (by cbv)
def azu:=(by have h:=aq2;rewrite [<-fM.eq_1,<-cx.eq_1]at h;exact h:ax 119=_)
def aq3:=(li Tryz.func120 rfl).trans (by cbv)
def azv:=(by have h:=aq3;rewrite [<-cx.eq_1]at h;exact h:ax 120=_)
def aq4:=(li Tryz.func121 rfl).trans (by cbv)
def azw:=(by have h:=aq4;rewrite [<-cx.eq_1]at h;exact h:ax 121=_)
def KW:=(li Tryz.func122 rfl).trans (by cbv)
def xI:KC:=kP (ax 122) 0
def jk:=(by have h:=(dP KW 0).trans (by cbv);exact h:xI=_)
def xJ:KC:=kP (ax 122) 1
def lj:=(by have h:=(dP KW 1).trans (by cbv);rewrite [<-jk]at h;exact h:xJ=_)
def xK:KC:=kP (ax 122) 2
def lq:=(by have h:=(dP KW 2).trans (by cbv);exact h:xK=_)
def xL:KC:=kP (ax 122) 3
def jo:=(by have h:=(dP KW 3).trans (by cbv);exact h:xL=_)
def xM:KC:=kP (ax 122) 4
def lr:=(by have h:=(dP KW 4).trans (by cbv);rewrite [<-jo]at h;exact h:xM=_)
def azx:=(by have h:=KW;rewrite [<-Mb.eq_1,<-cx.eq_1,<-jk,<-lj,<-lq,<-jo,<-lr]at h;exact h:ax 122=_)
def aq5:=(li Tryz.func123 rfl).trans (by cbv)
def azy:=(by have h:=aq5;rewrite [<-cx.eq_1]at h;exact h:ax 123=_)
def aq6:=(li Tryz.func124 rfl).trans (by cbv)
def azz:=(by have h:=aq6;rewrite [<-cx.eq_1]at h;exact h:ax 124=_)
def ahU:=(li Tryz.func125 rfl).trans (by cbv)
def xO:KC:=kP (ax 125) 0
def ly:=(by have h:=(dP ahU 0).trans (by cbv);exact h:xO=_)
def azA:=(by have h:=ahU;rewrite [<-cx.eq_1,<-ly]at h;exact h:ax 125=_)
def ahV:=(li Tryz.func126 rfl).trans (by cbv)
def rj:KC:=kP (ax 126) 0
def eO:=(by have h:=(dP ahV 0).trans (by cbv);exact h:rj=_)
def azB:=(by have h:=ahV;rewrite [<-eO]at h;exact h:ax 126=_)
def ahW:=(li Tryz.func127 rfl).trans (by cbv)
def t_:KC:=kP (ax 127) 0
def jv:=(by have h:=(dP ahW 0).trans (by cbv);exact h:t_=_)
def azC:=(by have h:=ahW;rewrite [<-jv]at h;exact h:ax 127=_)
def azD:=(li Tryz.func128 rfl).trans (by cbv)
def aq7:=(li Tryz.func129 rfl).trans (by cbv)
def azE:=(by have h:=aq7;rewrite [<-aP.eq_1]at h;exact h:ax 129=_)
def aq8:=(li Tryz.func130 rfl).trans (by cbv)
def azF:=(by have h:=aq8;rewrite [<-bR.eq_1]at h;exact h:ax 130=_)
def aq9:=(li Tryz.func131 rfl).trans (by cbv)
def azG:=(by have h:=aq9;rewrite [<-cx.eq_1]at h;exact h:ax 131=_)
def ahX:=(li Tryz.func132 rfl).trans (by cbv)
def vk:KC:=kP (ax 132) 0
def jS:=(by have h:=(dP ahX 0).trans (by cbv);exact h:vk=_)
def azH:=(by have h:=ahX;rewrite [<-aP.eq_1,<-jS]at h;exact h:ax 132=_)
def azI:=(li Tryz.func133 rfl).trans (by cbv)
def ahY:=(li Tryz.func134 rfl).trans (by cbv)
def vm:KC:=kP (ax 134) 0
def f_:=(by have h:=(dP ahY 0).trans (by cbv);exact h:vm=_)
def azJ:=(by have h:=ahY;rewrite [<-f_]at h;exact h:ax 134=_)
def azK:=(li Tryz.func135 rfl).trans (by cbv)
def azL:=(li Tryz.func136 rfl).trans (by cbv)
def ahZ:=(li Tryz.func137 rfl).trans (by cbv)
def vn:KC:=kP (ax 137) 0
def eW:=(by have h:=(dP ahZ 0).trans (by cbv);exact h:vn=_)
def azM:=(by have h:=ahZ;rewrite [<-eW]at h;exact h:ax 137=_)
def azN:=(li Tryz.func138 rfl).trans (by cbv)
def aw6:=(li Tryz.func139 rfl).trans (by cbv)
def aw7:=(li Tryz.func140 rfl).trans (by cbv)
def ah0:=(li Tryz.func141 rfl).trans (by cbv)
def vp:KC:=kP (ax 141) 0
def dR:=(by have h:=(dP ah0 0).trans (by cbv);exact h:vp=_)
def azO:=(by have h:=ah0;rewrite [<-dR]at h;exact h:ax 141=_)
def ZR:=(li Tryz.func142 rfl).trans (by cbv)
def qY:KC:=kP (ax 142) 0
def iQ:=(by have h:=(dP ZR 0).trans (by cbv);exact h:qY=_)
def vV:KC:=kP (ax 142) 1
def kB:=(by have h:=(dP ZR 1).trans (by cbv);exact h:vV=_)
def awZ:=(by have h:=ZR;rewrite [<-iQ,<-kB]at h;exact h:ax 142=_)
def axv:=(li Tryz.func143 rfl).trans (by cbv)
def axw:=(li Tryz.func144 rfl).trans (by cbv)
def agV:=(li Tryz.func145 rfl).trans (by cbv)
def O3:List KO:=yb (ax 145) 1
def l_:=(by have h:=(nd agV 1).trans (by cbv);exact h:O3=_)
def avG:=(by have h:=agV;rewrite [<-l_]at h;exact h:ax 145=_)
def axx:=(li Tryz.func146 rfl).trans (by cbv)
def agW:=(li Tryz.func147 rfl).trans (by cbv)
def MD:List KO:=yb (ax 147) 1
def uI:=(by have h:=(nd agW 1).trans (by cbv);exact h:MD=_)
def avH:=(by have h:=agW;rewrite [<-uI]at h;exact h:ax 147=_)
def agX:=(li Tryz.func148 rfl).trans (by cbv)
def p6:KC:=kP (ax 148) 0
def gj:=(by have h:=(dP agX 0).trans (by cbv);rewrite [<-oN.eq_1]at h;exact h:p6=_)
def avD:=(by have h:=agX;rewrite [<-oN.eq_1,<-gj]at h;exact h:ax 148=_)
def avI:=(li Tryz.func149 rfl).trans (by cbv)
def agY:=(li Tryz.func150 rfl).trans (by cbv)
def p7:KC:=kP (ax 150) 0
def gm:=(by have h:=(dP agY 0).trans (by cbv);rewrite [<-aE.eq_1]at h;exact h:p7=_)
def avE:=(by have h:=agY;rewrite [<-aE.eq_1,<-gm]at h;exact h:ax 150=_)
def ZS:=(li Tryz.func151 rfl).trans (by cbv)
def O4:List KO:=yb (ax 151) 2
def gF:=(by have h:=(nd ZS 2).trans (by cbv);exact h:O4=_)
def O5:List KO:=yb (ax 151) 11
def wC:=(by have h:=(nd ZS 11).trans (by cbv);exact h:O5=_)
def an3:=(by have h:=ZS;rewrite [<-gF,<-wC]at h;exact h:ax 151=_)
def agZ:=(li Tryz.func152 rfl).trans (by cbv)
def sA:KC:=kP (ax 152) 0
def iJ:=(by have h:=(dP agZ 0).trans (by cbv);exact h:sA=_)
def avy:=(by have h:=agZ;rewrite [<-iJ]at h;exact h:ax 152=_)
def aqP:=(li Tryz.func154 rfl).trans (by cbv)
def axy:=(by have h:=aqP;rewrite [<-cO.eq_1]at h;exact h:ax 154=_)
def aqQ:=(li Tryz.func155 rfl).trans (by cbv)
def axz:=(by have h:=aqQ;rewrite [<-iD.eq_1]at h;exact h:ax 155=_)
def uU:KC:=.dO [1,2,3,6,7,18] (lV [cz 19 (rq .lss 18 80)] (.Q (.cond (.t 19) .skip (.dO [2,3,6,7] (.exit 0))) (.Q (.block 1 (lV [ez 20 18,ez 8 20] (.Q (lV [ez 21 8,cz 22 (rq .lss 21 16)] (ux 22 (lV [ez 23 8,ez 24 1,ez 25 8,cz 26 (.Qj .mul (yF 8) (.t 25)),ez 27 8,cz 28 (.Qj .mul (yF 8) (.t 27)),cz 29 (rq .add 28 8),cz 30 (.slL 1 (.t 24) (J (.t 26)) (J (.t 29))),dY 31 (qA 220 [30]),cz 32 (.IK 80 1 (.t 7) (.t 23)),GA (GB 1 32 31)] (.exit 1)))) (.Q (.draw [] [H (ez 33 8) 0 0,H (cz 34 (rq .sub 33 15)) 0 0,H (cz 35 (.IK 80 1 (.t 7) (.t 34))) 0 0,H (ds 36 35) 0 0,H (ez 37 8) 0 0,H (cz 38 (rq .sub 37 2)) 0 0,H (cz 39 (.IK 80 1 (.t 7) (.t 38))) 0 0,H (ds 40 39) 0 0,H (ez 9 36) 0 0,H (ez 10 40) 0 0]) (.draw [] [H (ez 41 8) 0 4,H (ez 42 8) 0 4,H (cz 43 (rq .sub 42 16)) 0 4,H (cz 44 (.IK 80 1 (.t 7) (.t 43))) 0 4,H (ds 45 44) 0 4,H (ez 46 9) 0 0,mI (dY 47 (q_h 221 [.t 46,yF 1])) 0 1,H (ez 48 9) 0 1,mI (dY 49 (q_h 221 [.t 48,yF 8])) 1 2,H (cz 50 (qd .xor 47 49)) 2 4,H (ez 51 9) 0 4,H (cz 52 (.Qj .shr (.t 51) (.c (.I U 7)))) 0 4,H (cz 53 (qd .xor 50 52)) 2 4,H (cz 54 (qd .add 45 53)) 2 4,H (ez 55 8) 0 4,H (cz 56 (rq .sub 55 7)) 0 4,H (cz 57 (.IK 80 1 (.t 7) (.t 56))) 0 4,H (ds 58 57) 0 4,H (cz 59 (qd .add 54 58)) 2 4,H (ez 60 10) 0 2,mI (dY 61 (q_h 221 [.t 60,yF 19])) 2 3,H (ez 62 10) 0 3,mI (dY 63 (q_h 221 [.t 62,yF 61])) 3 4,H (cz 64 (qd .xor 61 63)) 4 4,H (ez 65 10) 0 4,H (cz 66 (.Qj .shr (.t 65) (.c (.I U 6)))) 0 4,H (cz 67 (qd .xor 64 66)) 4 4,H (cz 68 (qd .add 59 67)) 4 4,H (cz 69 (.IK 80 1 (.t 7) (.t 41))) 4 4,mI (GA (GB 1 69 68)) 4 5]))))) (.ops [cz 70 (rq .add 18 1),ez 18 70]))))
def lF:=uU.eq_1
def uV:KC:=.dO [2,3,6,7,11,72] (lV [cz 73 (rq .lss 72 80)] (.Q (.cond (.t 73) .skip (.dO [3,6,11] (.exit 2))) (.Q (.block 3 (lV [ez 74 72,ez 12 74] (.Q (.draw [] [H (cz 75 (.IK 8 1 (.t 11) (yF 0))) 0 0,H (ds 76 75) 0 0,H (cz 77 (.IK 8 1 (.t 11) (yF 4))) 0 0,H (ds 78 77) 0 0,H (ez 13 76) 0 0,H (ez 14 78) 0 0]) (.Q (.draw [] [H (cz 79 (.IK 8 1 (.t 11) (yF 7))) 0 3,H (ds 80 79) 0 3,H (ez 81 14) 0 0,mI (dY 82 (q_h 221 [.t 81,yF 14])) 0 1,H (ez 83 14) 0 1,mI (dY 84 (q_h 221 [.t 83,yF 18])) 1 2,H (cz 85 (qd .xor 82 84)) 2 3,H (ez 86 14) 0 2,mI (dY 87 (q_h 221 [.t 86,yF 41])) 2 3,H (cz 88 (qd .xor 85 87)) 3 3,H (cz 89 (qd .add 80 88)) 3 3,H (ez 90 14) 0 3,H (cz 91 (.IK 8 1 (.t 11) (yF 5))) 0 3,H (ds 92 91) 0 3,H (cz 93 (qd .and 90 92)) 0 3,H (ez 94 14) 0 3,H (cz 95 (.un .xor (.t 94))) 0 3,H (cz 96 (.IK 8 1 (.t 11) (yF 6))) 0 3,H (ds 97 96) 0 3,H (cz 98 (qd .and 95 97)) 0 3,H (cz 99 (qd .xor 93 98)) 0 3,H (cz 100 (qd .add 89 99)) 3 3,H (ez 101 2) 0 3,H (ez 102 12) 0 3,H (cz 103 (q_N 101)) 0 3,H (cz 104 (.IK 80 1 (.t 103) (.t 102))) 0 3,H (ds 105 104) 0 3,H (cz 106 (qd .add 100 105)) 3 3,H (ez 107 12) 0 3,H (cz 108 (.IK 80 1 (.t 7) (.t 107))) 0 3,H (ds 109 108) 0 3,H (cz 110 (qd .add 106 109)) 3 3,H (ez 15 110) 3 3]) (.Q (.draw [] [H (ez 111 13) 0 0,mI (dY 112 (q_h 221 [.t 111,yF 28])) 0 1,H (ez 113 13) 0 1,mI (dY 114 (q_h 221 [.t 113,yF 34])) 1 2,H (cz 115 (qd .xor 112 114)) 2 3,H (ez 116 13) 0 2,mI (dY 117 (q_h 221 [.t 116,yF 39])) 2 3,H (cz 118 (qd .xor 115 117)) 3 3,H (ez 119 13) 0 3,H (cz 120 (.IK 8 1 (.t 11) (yF 1))) 0 3,H (ds 121 120) 0 3,H (cz 122 (qd .and 119 121)) 0 3,H (ez 123 13) 0 3,H (cz 124 (.IK 8 1 (.t 11) (yF 2))) 0 3,H (ds 125 124) 0 3,H (cz 126 (qd .and 123 125)) 0 3,H (cz 127 (qd .xor 122 126)) 0 3,H (cz 128 (.IK 8 1 (.t 11) (yF 1))) 0 3,H (ds 129 128) 0 3,H (cz 130 (.IK 8 1 (.t 11) (yF 2))) 0 3,H (ds 131 130) 0 3,H (cz 132 (qd .and 129 131)) 0 3,H (cz 133 (qd .xor 127 132)) 0 3,H (cz 134 (qd .add 118 133)) 3 3,H (ez 16 134) 3 3]) (.ops [ez 135 15,ez 136 16,cz 137 (qd .add 135 136),cz 138 (.IK 8 1 (.t 11) (yF 0)),ds 139 138,cz 140 (.IK 8 1 (.t 11) (yF 1)),ds 141 140,cz 142 (.IK 8 1 (.t 11) (yF 2)),ds 143 142,cz 144 (.IK 8 1 (.t 11) (yF 3)),ds 145 144,ez 146 15,cz 147 (qd .add 145 146),cz 148 (.IK 8 1 (.t 11) (yF 4)),ds 149 148,cz 150 (.IK 8 1 (.t 11) (yF 5)),ds 151 150,cz 152 (.IK 8 1 (.t 11) (yF 6)),ds 153 152,cz 154 (.bld cO [(0,1,.t 137),(1,1,.t 139),(2,1,.t 141),(3,1,.t 143),(4,1,.t 147),(5,1,.t 149),(6,1,.t 151),(7,1,.t 153)]),GA (GB 8 11 154)])))))) (.ops [cz 155 (rq .add 72 1),ez 72 155]))))
def pA:=uV.eq_1
def uW:KC:=.dO [3,6,11,156] (lV [cz 157 (rq .lss 156 8)] (.Q (.cond (.t 157) .skip (.dO [3,6] (.exit 4))) (.Q (.block 5 (lV [ez 158 156,ez 17 158] (.draw [] [H (ez 159 17) 0 0,H (cz 160 (.IK 8 1 (.t 3) (.t 159))) 0 0,H (ds 161 160) 0 0,H (ez 162 17) 0 0,H (cz 163 (.IK 8 1 (.t 11) (.t 162))) 0 0,H (ds 164 163) 0 0,H (cz 165 (qd .add 161 164)) 0 0,H (cz 166 (.IK 8 1 (.t 3) (.t 159))) 0 0,mI (GA (GB 1 166 165)) 0 1]))) (.ops [cz 167 (rq .add 156 1),ez 156 167]))))
def pB:=uW.eq_1
def axA:ax 156=J ⟨169,lV [dY 3 (YU 8 0),dY 6 (.alloc cO)] (lV [dY 7 (.alloc iD)] (.Q (lV [cz 18 (wj (.I Y 0))] (.block 0 (.L uU))) (lV [dY 71 (dW 8 3),dY 11 (.alloc cO),GA (GB 8 11 71)] (.Q (lV [cz 72 (wj (.I Y 0))] (.block 2 (.L uV))) (.Q (lV [cz 156 (wj (.I Y 0))] (.block 4 (.L uW))) (lV [dY 168 (dW 8 3),GA (GB 8 6 168)] (Il [6]))))))),[.C 6 (.A 8)]⟩:=(li Tryz.func156 rfl).trans (by kernel_rfl)
end
end Go.Proofs.YtiaklhkdbokkhaaGreat.am
