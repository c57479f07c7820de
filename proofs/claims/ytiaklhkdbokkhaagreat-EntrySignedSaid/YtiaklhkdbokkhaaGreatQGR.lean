/- Parts. No condition. -/
import Derived.KernelRfl
import Derived.Test.YtiaklhkdbokkhaaGreatQGQ
set_option linter.all false
namespace Go.Proofs.YtiaklhkdbokkhaaGreat.am
open Go
open Option renaming some->J,none->M
open Bool renaming false->O,true->G
open Go.IntKind renaming i64->Y,u64->U
open Decidable renaming decide->b_
open Go renaming FuncId->eS
open Go.Proofs.YtiaklhkdbokkhaaGreat.am renaming bm->H
noncomputable section
set_option maxRecDepth 100000
set_option maxHeartbeats 0
def ag1:=(li Tryz.func157 rfl).trans (by cbv)
def FR:KC:=kQ (ay 157) 0
def pQ:=(by have h:=(dP ag1 0).trans (by cbv);exact h:FR=_)
def axC:=(by have h:=ag1;rewrite [<-pQ]at h;exact h:ay 157=_)
def ag2:=(li Tryz.func158 rfl).trans (by cbv)
def Fx:KC:=kQ (ay 158) 0
def nQ:=(by have h:=(dP ag2 0).trans (by cbv);exact h:Fx=_)
def awr:=(by have h:=ag2;rewrite [<-nQ]at h;exact h:ay 158=_)
def aqS:=(li Tryz.func159 rfl).trans (by cbv)
def awt:=(by have h:=aqS;rewrite [<-gU.eq_1]at h;exact h:ay 159=_)
def ag3:=(li Tryz.func160 rfl).trans (by cbv)
def xv:KC:=kQ (ay 160) 0
def jj:=(by have h:=(dP ag3 0).trans (by cbv);exact h:xv=_)
def awq:=(by have h:=ag3;rewrite [<-gU.eq_1,<-jj]at h;exact h:ay 160=_)
def awn:=(li Tryz.func161 rfl).trans (by cbv)
def av0:=(li Tryz.func162 rfl).trans (by cbv)
def avY:=(li Tryz.func164 rfl).trans (by cbv)
def ZU:=(li Tryz.func165 rfl).trans (by cbv)
def xr:KC:=kQ (ay 165) 0
def kY:=(by have h:=(dP ZU 0).trans (by cbv);exact h:xr=_)
def xu:KC:=kQ (ay 165) 1
def kZ:=(by have h:=(dP ZU 1).trans (by cbv);exact h:xu=_)
def av6:=(by have h:=ZU;rewrite [<-gU.eq_1,<-kY,<-kZ]at h;exact h:ay 165=_)
def ZV:=(li Tryz.func166 rfl).trans (by cbv)
def xo:KC:=kQ (ay 166) 0
def kW:=(by have h:=(dP ZV 0).trans (by cbv);exact h:xo=_)
def xp:KC:=kQ (ay 166) 1
def kX:=(by have h:=(dP ZV 1).trans (by cbv);exact h:xp=_)
def av3:=(by have h:=ZV;rewrite [<-gU.eq_1,<-kW,<-kX]at h;exact h:ay 166=_)
def ag4:=(li Tryz.func167 rfl).trans (by cbv)
def yq:KC:=kQ (ay 167) 0
def eM:=(by have h:=(dP ag4 0).trans (by cbv);rewrite [<-ah.eq_1]at h;exact h:yq=_)
def axD:=(by have h:=ag4;rewrite [<-ah.eq_1,<-eM]at h;exact h:ay 167=_)
def ag5:=(li Tryz.func168 rfl).trans (by cbv)
def FT:KC:=kQ (ay 168) 0
def mj:=(by have h:=(dP ag5 0).trans (by cbv);exact h:FT=_)
def axE:=(by have h:=ag5;rewrite [<-mj]at h;exact h:ay 168=_)
def axF:=(li Tryz.func169 rfl).trans (by cbv)
def axG:=(li Tryz.func170 rfl).trans (by cbv)
def ag6:=(li Tryz.func171 rfl).trans (by cbv)
def DA:KC:=kQ (ay 171) 0
def oP:=(by have h:=(dP ag6 0).trans (by cbv);rewrite [<-ah.eq_1]at h;exact h:DA=_)
def axH:=(by have h:=ag6;rewrite [<-ah.eq_1,<-oP]at h;exact h:ay 171=_)
def ag7:=(li Tryz.func172 rfl).trans (by cbv)
def FU:KC:=kQ (ay 172) 0
def pR:=(by have h:=(dP ag7 0).trans (by cbv);exact h:FU=_)
def axI:=(by have h:=ag7;rewrite [<-pR]at h;exact h:ay 172=_)
def axJ:=(li Tryz.func173 rfl).trans (by cbv)
def ag8:=(li Tryz.func174 rfl).trans (by cbv)
def kD:KC:=kQ (ay 174) 0
def jv:=(by have h:=(dP ag8 0).trans (by cbv);exact h:kD=_)
def axK:=(by have h:=ag8;rewrite [<-jv]at h;exact h:ay 174=_)
def ag9:=(li Tryz.func175 rfl).trans (by cbv)
def k8:KC:=kQ (ay 175) 0
def jM:=(by have h:=(dP ag9 0).trans (by cbv);exact h:k8=_)
def axL:=(by have h:=ag9;rewrite [<-jM]at h;exact h:ay 175=_)
def axM:=(li Tryz.func176 rfl).trans (by cbv)
def ZW:=(li Tryz.func177 rfl).trans (by cbv)
def MF:List KO:=yc (ay 177) 5
def gQ:=(by have h:=(nh ZW 5).trans (by cbv);exact h:MF=_)
def DB:KC:=kQ (ay 177) 0
def m_:=(by have h:=(dP ZW 0).trans (by cbv);rewrite [<-gQ]at h;exact h:DB=_)
def axN:=(by have h:=ZW;rewrite [<-gQ,<-m_]at h;exact h:ay 177=_)
def axO:=(li Tryz.func178 rfl).trans (by cbv)
def ag_:=(li Tryz.func179 rfl).trans (by cbv)
def uY:KC:=kQ (ay 179) 0
def eB:=(by have h:=(dP ag_ 0).trans (by cbv);rewrite [<-ah.eq_1]at h;exact h:uY=_)
def axP:=(by have h:=ag_;rewrite [<-fX.eq_1,<-ah.eq_1,<-eB]at h;exact h:ay 179=_)
def axQ:=(li Tryz.func180 rfl).trans (by cbv)
def axR:=(li Tryz.func181 rfl).trans (by cbv)
def axS:=(li Tryz.func182 rfl).trans (by cbv)
def axT:=(li Tryz.func183 rfl).trans (by cbv)
def axU:=(li Tryz.func184 rfl).trans (by cbv)
def aqT:=(li Tryz.func185 rfl).trans (by cbv)
def aod:=(by have h:=aqT;rewrite [<-fX.eq_1,<-ah.eq_1]at h;exact h:ay 185=_)
def aha:=(li Tryz.func186 rfl).trans (by cbv)
def FV:KC:=kQ (ay 186) 0
def pS:=(by have h:=(dP aha 0).trans (by cbv);rewrite [<-fX.eq_1,<-oO.eq_1,<-ah.eq_1]at h;exact h:FV=_)
def axV:=(by have h:=aha;rewrite [<-fX.eq_1,<-oO.eq_1,<-ah.eq_1,<-pS]at h;exact h:ay 186=_)
def awo:=(li Tryz.func187 rfl).trans (by cbv)
def awS:=(li Tryz.func188 rfl).trans (by cbv)
def aqU:=(li Tryz.func189 rfl).trans (by cbv)
def awV:=(by have h:=aqU;rewrite [<-aP.eq_1,<-gU.eq_1]at h;exact h:ay 189=_)
def Uq:=(li Tryz.func190 rfl).trans (by cbv)
def CK:List KO:=yc (ay 190) 3
def fY:=(by have h:=(nh Uq 3).trans (by cbv);exact h:CK=_)
def CM:List KO:=yc (ay 190) 4
def fZ:=(by have h:=(nh Uq 4).trans (by cbv);exact h:CM=_)
def uZ:KC:=kQ (ay 190) 0
def f_:=(by have h:=(dP Uq 0).trans (by cbv);rewrite [<-fY,<-fZ]at h;exact h:uZ=_)
def axW:=(by have h:=Uq;rewrite [<-fY,<-fZ,<-f_]at h;exact h:ay 190=_)
def axX:=(li Tryz.func191 rfl).trans (by cbv)
def O7:=(li Tryz.func192 rfl).trans (by cbv)
def D4:List KO:=yc (ay 192) 1
def fh:=(by have h:=(nh O7 1).trans (by cbv);exact h:D4=_)
def vQ:KC:=kQ (ay 192) 0
def ku:=(by have h:=(dP O7 0).trans (by cbv);exact h:vQ=_)
def vR:KC:=kQ (ay 192) 1
def kv:=(by have h:=(dP O7 1).trans (by cbv);exact h:vR=_)
def vT:KC:=kQ (ay 192) 2
def kx:=(by have h:=(dP O7 2).trans (by cbv);exact h:vT=_)
def avO:=(by have h:=O7;rewrite [<-fh,<-ku,<-kv,<-kx]at h;exact h:ay 192=_)
def Ur:=(li Tryz.func193 rfl).trans (by cbv)
def D5:List KO:=yc (ay 193) 1
def kt:=(by have h:=(nh Ur 1).trans (by cbv);exact h:D5=_)
def vM:KC:=kQ (ay 193) 0
def km:=(by have h:=(dP Ur 0).trans (by cbv);exact h:vM=_)
def vO:KC:=kQ (ay 193) 1
def kp:=(by have h:=(dP Ur 1).trans (by cbv);exact h:vO=_)
def avN:=(by have h:=Ur;rewrite [<-kt,<-km,<-kp]at h;exact h:ay 193=_)
def ahb:=(li Tryz.func194 rfl).trans (by cbv)
def uO:KC:=kQ (ay 194) 0
def iq:=(by have h:=(dP ahb 0).trans (by cbv);exact h:uO=_)
def aw5:=(by have h:=ahb;rewrite [<-iq]at h;exact h:ay 194=_)
def FW:=(li Tryz.func195 rfl).trans (by cbv)
def uP:List KO:=yc (ay 195) 2
def sU:=(by have h:=(nh FW 2).trans (by cbv);exact h:uP=_)
def uQ:List KO:=yc (ay 195) 4
def sV:=(by have h:=(nh FW 4).trans (by cbv);exact h:uQ=_)
def uR:List KO:=yc (ay 195) 6
def sW:=(by have h:=(nh FW 6).trans (by cbv);rewrite [<-ah.eq_1]at h;exact h:uR=_)
def uS:List KO:=yc (ay 195) 8
def sX:=(by have h:=(nh FW 8).trans (by cbv);rewrite [<-ah.eq_1]at h;exact h:uS=_)
def uT:List KO:=yc (ay 195) 11
def sY:=(by have h:=(nh FW 11).trans (by cbv);exact h:uT=_)
def CN:List KD:=dwK (ay 195) 0
def jL:=(by have h:=(ap1 FW 0).trans (by cbv);exact h:CN=_)
def qi:KC:=kQ (ay 195) 0
def iu:=(by have h:=(dP FW 0).trans (by cbv);rewrite [<-jL]at h;exact h:qi=_)
def aw9:=(by have h:=FW;rewrite [<-ah.eq_1,<-sU,<-sV,<-sW,<-sX,<-sY,<-jL,<-iu]at h;exact h:ay 195=_)
def ahc:=(li Tryz.func196 rfl).trans (by cbv)
def vK:KC:=kQ (ay 196) 0
def kj:=(by have h:=(dP ahc 0).trans (by cbv);exact h:vK=_)
def avM:=(by have h:=ahc;rewrite [<-kj]at h;exact h:ay 196=_)
def ahd:=(li Tryz.func197 rfl).trans (by cbv)
def vY:KC:=kQ (ay 197) 0
def iT:=(by have h:=(dP ahd 0).trans (by cbv);exact h:vY=_)
def axY:=(by have h:=ahd;rewrite [<-cx.eq_1,<-iT]at h;exact h:ay 197=_)
def ahe:=(li Tryz.func198 rfl).trans (by cbv)
def xC:KC:=kQ (ay 198) 0
def g_:=(by have h:=(dP ahe 0).trans (by cbv);exact h:xC=_)
def axZ:=(by have h:=ahe;rewrite [<-cx.eq_1,<-g_]at h;exact h:ay 198=_)
def ZX:=(li Tryz.func199 rfl).trans (by cbv)
def u4:KC:=kQ (ay 199) 0
def iw:=(by have h:=(dP ZX 0).trans (by cbv);exact h:u4=_)
def u6:KC:=kQ (ay 199) 1
def jN:=(by have h:=(dP ZX 1).trans (by cbv);rewrite [<-iw]at h;exact h:u6=_)
def ax0:=(by have h:=ZX;rewrite [<-cx.eq_1,<-iw,<-jN]at h;exact h:ay 199=_)
def ahf:=(li Tryz.func200 rfl).trans (by cbv)
def u7:KC:=kQ (ay 200) 0
def jO:=(by have h:=(dP ahf 0).trans (by cbv);exact h:u7=_)
def ax1:=(by have h:=ahf;rewrite [<-cx.eq_1,<-jO]at h;exact h:ay 200=_)
def ax2:=(li Tryz.func201 rfl).trans (by cbv)
def ahg:=(li Tryz.func202 rfl).trans (by cbv)
def u9:KC:=kQ (ay 202) 0
def jP:=(by have h:=(dP ahg 0).trans (by cbv);exact h:u9=_)
def ax3:=(by have h:=ahg;rewrite [<-aP.eq_1,<-jP]at h;exact h:ay 202=_)
def Us:=(li Tryz.func203 rfl).trans (by cbv)
def vZ:KC:=kQ (ay 203) 0
def eN:=(by have h:=(dP Us 0).trans (by cbv);exact h:vZ=_)
def v8:KC:=kQ (ay 203) 1
def kE:=(by have h:=(dP Us 1).trans (by cbv);rewrite [<-eN]at h;exact h:v8=_)
def v9:KC:=kQ (ay 203) 2
def kF:=(by have h:=(dP Us 2).trans (by cbv);rewrite [<-eN,<-kE]at h;exact h:v9=_)
def ax4:=(by have h:=Us;rewrite [<-eN,<-kE,<-kF]at h;exact h:ay 203=_)
def KN:=(li Tryz.func204 rfl).trans (by cbv)
def xD:KC:=kQ (ay 204) 0
def k9:=(by have h:=(dP KN 0).trans (by cbv);exact h:xD=_)
def r9:KC:=kQ (ay 204) 1
def hJ:=(by have h:=(dP KN 1).trans (by cbv);exact h:r9=_)
def xE:KC:=kQ (ay 204) 2
def k_:=(by have h:=(dP KN 2).trans (by cbv);exact h:xE=_)
def xF:KC:=kQ (ay 204) 3
def jk:=(by have h:=(dP KN 3).trans (by cbv);exact h:xF=_)
def xG:KC:=kQ (ay 204) 4
def lg:=(by have h:=(dP KN 4).trans (by cbv);rewrite [<-jk]at h;exact h:xG=_)
def ax5:=(by have h:=KN;rewrite [<-k9,<-hJ,<-k_,<-jk,<-lg]at h;exact h:ay 204=_)
def aqV:=(li Tryz.func205 rfl).trans (by cbv)
def ax6:=(by have h:=aqV;rewrite [<-FX.eq_1]at h;exact h:ay 205=_)
def aoe:=(li Tryz.func206 rfl).trans (by cbv)
def ahh:=(li Tryz.func207 rfl).trans (by cbv)
def tY:KC:=kQ (ay 207) 0
def gY:=(by have h:=(dP ahh 0).trans (by cbv);exact h:tY=_)
def ax7:=(by have h:=ahh;rewrite [<-gY]at h;exact h:ay 207=_)
def ax8:=(li Tryz.func208 rfl).trans (by cbv)
def ax9:=(li Tryz.func209 rfl).trans (by cbv)
def ax_:=(li Tryz.func210 rfl).trans (by cbv)
def ahi:=(li Tryz.func211 rfl).trans (by cbv)
def tU:KC:=kQ (ay 211) 0
def jt:=(by have h:=(dP ahi 0).trans (by cbv);exact h:tU=_)
def avA:=(by have h:=ahi;rewrite [<-jt]at h;exact h:ay 211=_)
def ahj:=(li Tryz.func212 rfl).trans (by cbv)
def tV:KC:=kQ (ay 212) 0
def ju:=(by have h:=(dP ahj 0).trans (by cbv);exact h:tV=_)
def avB:=(by have h:=ahj;rewrite [<-ju]at h;exact h:ay 212=_)
def ahk:=(li Tryz.func213 rfl).trans (by cbv)
def pO:KC:=kQ (ay 213) 0
def fP:=(by have h:=(dP ahk 0).trans (by cbv);rewrite [<-ah.eq_1]at h;exact h:pO=_)
def avC:=(by have h:=ahk;rewrite [<-ah.eq_1,<-fP]at h;exact h:ay 213=_)
def ahl:=(li Tryz.func214 rfl).trans (by cbv)
def MG:List KO:=yc (ay 214) 1
def rE:=(by have h:=(nh ahl 1).trans (by cbv);exact h:MG=_)
def aof:=(by have h:=ahl;rewrite [<-rE]at h;exact h:ay 214=_)
def ahm:=(li Tryz.func215 rfl).trans (by cbv)
def pk:KC:=kQ (ay 215) 0
def fI:=(by have h:=(dP ahm 0).trans (by cbv);exact h:pk=_)
def avD:=(by have h:=ahm;rewrite [<-fI]at h;exact h:ay 215=_)
def aya:=(li Tryz.func216 rfl).trans (by cbv)
def ahn:=(li Tryz.func217 rfl).trans (by cbv)
def QH:List KO:=yc (ay 217) 1
def cE:=(by have h:=(nh ahn 1).trans (by cbv);rewrite [<-ah.eq_1]at h;exact h:QH=_)
def Xj:=(by have h:=ahn;rewrite [<-ah.eq_1,<-cE]at h;exact h:ay 217=_)
def aho:=(li Tryz.func218 rfl).trans (by cbv)
def O8:List KO:=yc (ay 218) 1
def BR:=(by have h:=(nh aho 1).trans (by cbv);exact h:O8=_)
def aw2:=(by have h:=aho;rewrite [<-BR]at h;exact h:ay 218=_)
def ahp:=(li Tryz.func219 rfl).trans (by cbv)
def MH:List KO:=yc (ay 219) 1
def rC:=(by have h:=(nh ahp 1).trans (by cbv);exact h:MH=_)
def aw4:=(by have h:=ahp;rewrite [<-rC]at h;exact h:ay 219=_)
def ahq:=(li Tryz.func220 rfl).trans (by cbv)
def AF:KC:=kQ (ay 220) 0
def nm:=(by have h:=(dP ahq 0).trans (by cbv);exact h:AF=_)
def ayb:=(by have h:=ahq;rewrite [<-nm]at h;exact h:ay 220=_)
def awZ:=(li Tryz.func221 rfl).trans (by cbv)
def ayc:=(li Tryz.func222 rfl).trans (by cbv)
def ayd:=(li Tryz.func223 rfl).trans (by cbv)
def aye:=(li Tryz.func224 rfl).trans (by cbv)
def ahr:=(li Tryz.func225 rfl).trans (by cbv)
def BV:KC:=kQ (ay 225) 0
def eP:=(by have h:=(dP ahr 0).trans (by cbv);exact h:BV=_)
def ayf:=(by have h:=ahr;rewrite [<-eP]at h;exact h:ay 225=_)
def ayg:=(li Tryz.func226 rfl).trans (by cbv)
def ayh:=(li Tryz.func228 rfl).trans (by cbv)
def ayi:=(li Tryz.func229 rfl).trans (by cbv)
def ayj:=(li Tryz.func230 rfl).trans (by cbv)
def ayk:=(li Tryz.func231 rfl).trans (by cbv)
def ayl:=(li Tryz.func232 rfl).trans (by cbv)
def ZY:=(li Tryz.func233 rfl).trans (by cbv)
def KQ:List KO:=yc (ay 233) 4
def ml:=(by have h:=(nh ZY 4).trans (by cbv);exact h:KQ=_)
def BW:KC:=kQ (ay 233) 0
def j9:=(by have h:=(dP ZY 0).trans (by cbv);rewrite [<-ml]at h;exact h:BW=_)
def aym:=(by have h:=ZY;rewrite [<-ml,<-j9]at h;exact h:ay 233=_)
def ahs:=(li Tryz.func234 rfl).trans (by cbv)
def BX:KC:=kQ (ay 234) 0
def mm:=(by have h:=(dP ahs 0).trans (by cbv);exact h:BX=_)
def ayn:=(by have h:=ahs;rewrite [<-mm]at h;exact h:ay 234=_)
def ZZ:=(li Tryz.func235 rfl).trans (by cbv)
def MI:List KO:=yc (ay 235) 1
def gR:=(by have h:=(nh ZZ 1).trans (by cbv);exact h:MI=_)
def DD:KC:=kQ (ay 235) 0
def ey:=(by have h:=(dP ZZ 0).trans (by cbv);rewrite [<-ah.eq_1]at h;exact h:DD=_)
def ayo:=(by have h:=ZZ;rewrite [<-ah.eq_1,<-gR,<-ey]at h;exact h:ay 235=_)
def Z0:=(li Tryz.func236 rfl).trans (by cbv)
def DE:KC:=kQ (ay 236) 0
def oQ:=(by have h:=(dP Z0 0).trans (by cbv);exact h:DE=_)
def DG:KC:=kQ (ay 236) 1
def oR:=(by have h:=(dP Z0 1).trans (by cbv);exact h:DG=_)
def ayp:=(by have h:=Z0;rewrite [<-fX.eq_1,<-oQ,<-oR]at h;exact h:ay 236=_)
def aw1:=(li Tryz.func237 rfl).trans (by cbv)
def Z1:=(li Tryz.func238 rfl).trans (by cbv)
def D6:List KO:=yc (ay 238) 4
def pT:=(by have h:=(nh Z1 4).trans (by cbv);exact h:D6=_)
def v_:KC:=kQ (ay 238) 0
def iU:=(by have h:=(dP Z1 0).trans (by cbv);rewrite [<-pT]at h;exact h:v_=_)
def ayq:=(by have h:=Z1;rewrite [<-pT,<-iU]at h;exact h:ay 238=_)
def aht:=(li Tryz.func239 rfl).trans (by cbv)
def u_:KC:=kQ (ay 239) 0
def iy:=(by have h:=(dP aht 0).trans (by cbv);exact h:u_=_)
def ayr:=(by have h:=aht;rewrite [<-iy]at h;exact h:ay 239=_)
def qk:List KO:=[ez 10 3,cz 11 (rz .lss 10 1),ez 12 11,Mt 13 12 3,pJ 14 12 (rz .gtr 13 6),cz 15 (Mu 12 14),ez 16 15,Mt 17 16 3,pJ 18 16 (rz .neq 17 1),Mt 19 16 18,q_x 20 19 3,Ce 21 19 (rz .neq 20 2),pJ 22 16 (YU 19 21),Mt 23 16 22,Ce 24 23 (Ah 1 1),RG 25 23 (BB 24),Ce 26 23 (rz .neq 25 0),pJ 27 16 (YU 23 26),cz 28 (Mu 16 27),ez 29 28,Mt 30 29 3,pJ 31 29 (rz .neq 30 3),Mt 32 29 31,q_x 33 32 3,Ce 34 32 (rz .neq 33 4),pJ 35 29 (YU 32 34),Mt 36 29 35,Ce 37 36 (Ah 2 1),RG 38 36 (BB 37),Ce 39 36 (.Ql .neq (.t 38) (.c (.S []))),pJ 40 29 (YU 36 39),cz 41 (Mu 29 40),ez 42 41,Mt 43 42 3,pJ 44 42 (rz .neq 43 5),Mt 45 42 44,Ce 46 45 (Ah 3 1),RG 47 45 (BB 46),Ce 48 45 (Hp 47),Ce 49 45 (rz .gtr 48 0),pJ 50 42 (YU 45 49),cz 51 (Mu 42 50),ez 52 51,Mt 53 52 3,pJ 54 52 (rz .neq 53 6),Mt 55 52 54,Ce 56 55 (Ah 4 1),RG 57 55 (BB 56),Ce 58 55 (Hp 57),Ce 59 55 (rz .gtr 58 0),pJ 60 52 (YU 55 59),cz 61 (Mu 52 60)]
def Be:=qk.eq_1
def qm:List KO:=[ez 62 3,cz 63 (rz .eql 62 1),ez 64 63,Ce 65 64 (Ah 1 1),RG 66 64 (BB 65),Ce 67 64 (rz .neq 66 0),cz 68 (YU 64 67),ez 69 68,Ce 70 69 (Ah 1 1),RG 71 69 (BB 70),Ce 72 69 (rz .neq 71 1),cz 73 (YU 69 72),ez 74 73,Mt 75 74 3,pJ 76 74 (rz .eql 75 3),Mt 77 74 76,Ce 78 77 (Ah 2 1),RG 79 77 (BB 78),Ce 80 77 (q_S 79),Ce 81 77 (rz .gtr 80 64),pJ 82 74 (YU 77 81),cz 83 (Mu 74 82),ez 84 83,Mt 85 84 3,pJ 86 84 (rz .eql 85 4),Mt 87 84 86,Ce 88 87 (Ah 2 1),RG 89 87 (BB 88),RG 90 87 (qB 238 [89]),Ce 91 87 (q_U 90),pJ 92 84 (YU 87 91),cz 93 (Mu 84 92),ez 94 93,pJ 95 94 (Ah 3 1),DW 96 94 (BB 95),pJ 97 94 (Hp 96),pJ 98 94 (rz .gtr 97 8),cz 99 (Mu 94 98),ez 100 99,pJ 101 100 (Ah 4 1),DW 102 100 (BB 101),pJ 103 100 (Hp 102),pJ 104 100 (rz .gtr 103 12),cz 105 (Mu 100 104),ez 106 105,pJ 107 106 (Ah 5 1),DW 108 106 (BB 107),pJ 109 106 (Hp 108),pJ 110 106 (Ah 3 1),DW 111 106 (BB 110),pJ 112 106 (Hp 111),pJ 113 106 (Ah 4 1),DW 114 106 (BB 113),pJ 115 106 (Hp 114),pJ 116 106 (qe .add 112 115),pJ 117 106 (qe .neq 109 116),cz 118 (Mu 106 117)]
def Bf:=qm.eq_1
def va:List KD:=[H (eG 126 3 1) 0 0,H (dt 127 126) 0 0,H (ez 128 4) 0 0,H (cz 129 (Ef 1 127 128)) 0 0,H (dt 130 129) 0 0,mJ (dY 131 (qB 238 [130])) 0 1,H (cz 132 (q_U 131)) 1 1,H (ez 133 132) 1 1,H (Mt 134 133 4) 1 1,H (pJ 135 133 (rz .gtr 134 0)) 1 1,H (Mt 136 133 135) 1 1,H (Ce 137 136 (Ah 3 1)) 1 1,H (RG 138 136 (BB 137)) 1 1,H (q_x 139 136 4) 1 1,H (Ce 140 136 (Ef 1 138 139)) 1 1,H (RG 141 136 (BB 140)) 1 1,H (Ce 142 136 (Ah 3 1)) 1 1,H (RG 143 136 (BB 142)) 1 1,H (q_x 144 136 4) 1 1,H (Ce 145 136 (rz .sub 144 1)) 1 1,H (Ce 146 136 (Ef 1 143 145)) 1 1,H (RG 147 136 (BB 146)) 1 1,H (Ce 148 136 (.Ql .leq (.t 141) (.t 147))) 1 1,H (pJ 149 133 (YU 136 148)) 1 1,H (cz 150 (Mu 133 149)) 1 1]
def mD:=va.eq_1
def qo:KC:=.dO [1,4] (.Q (lW [ez 119 4,eG 120 3 1,dt 121 120,cz 122 (Hp 121),cz 123 (qe .lss 119 122)] (.cond (.t 123) .skip (.dO [1] (.exit 0)))) (.Q (.block 1 (.Q (.draw [] va) (.dO [1,4,150] (uz 150 (lW [cz 2 (wm (.B O))] (Im [2])))))) (.ops [ez 124 4,cz 125 (rz .add 124 1),ez 4 125])))
def jQ:=qo.eq_1
def qp:KC:=.dO [1,5,6] (.Q (lW [ez 158 6,ez 159 5,cz 160 (qe .lss 158 159)] (.cond (.t 160) .skip (.dO [1,5] (.exit 4)))) (.Q (.block 5 (.Q (.draw [] [H (eG 163 4 1) 0 0,H (dt 164 163) 0 0,H (ez 165 5) 0 0,H (cz 166 (Ef 1 164 165)) 0 0,H (dt 167 166) 0 0,H (eG 168 4 1) 0 0,H (dt 169 168) 0 0,H (ez 170 6) 0 0,H (cz 171 (Ef 1 169 170)) 0 0,H (dt 172 171) 0 0,H (cz 173 (qe .eql 167 172)) 0 0]) (uz 173 (lW [cz 2 (wm (.B O))] (Im [2]))))) (.ops [ez 161 6,cz 162 (rz .add 161 1),ez 6 162])))
def mE:=qp.eq_1
def qq:KC:=.dO [1,5] (.Q (lW [ez 151 5,eG 152 4 1,dt 153 152,cz 154 (Hp 153),cz 155 (qe .lss 151 154)] (.cond (.t 155) .skip (.dO [1] (.exit 2)))) (.Q (.block 3 (.Q (lW [cz 6 (wm (.I Y 0))] (.block 4 (.L qp))) (lW [eG 174 4 1,dt 175 174,ez 176 5,cz 177 (Ef 1 175 176),dt 178 177,cz 179 (.Qk .eql (.t 178) (.c (.I U 0)))] (uz 179 (lW [cz 2 (wm (.B O))] (Im [2])))))) (.ops [ez 156 5,cz 157 (rz .add 156 1),ez 5 157])))
def mF:=qq.eq_1
def qs:KC:=.dO [1,7] (.Q (lW [ez 180 7,eG 181 5 1,dt 182 181,cz 183 (Hp 182),cz 184 (qe .lss 180 183)] (.cond (.t 184) .skip (.dO [] (.exit 6)))) (.Q (.block 7 (lW [eG 187 5 1,dt 188 187,ez 189 7,cz 190 (Ef 6 188 189),dY 191 (dW 6 190),dY 192 (qB 240 [191]),cz 193 (q_U 192)] (uz 193 (lW [cz 2 (wm (.B O))] (Im [2]))))) (.ops [ez 185 7,cz 186 (rz .add 185 1),ez 7 186])))
def mG:=qs.eq_1
def ays:ay 240=J ⟨194,lW [dY 1 (YV 6 0),cz 2 (wm (.B O))] (lW [eG 8 0 1,dt 9 8,ez 3 9] (.Q (lW qk (.dO [1,3,61] (uz 61 (lW [cz 2 (wm (.B O))] (Im [2]))))) (.Q (lW qm (.dO [1,118] (uz 118 (lW [cz 2 (wm (.B O))] (Im [2]))))) (.Q (lW [cz 4 (wm (.I Y 0))] (.block 0 (.L qo))) (.Q (lW [cz 5 (wm (.I Y 0))] (.block 2 (.L qq))) (.Q (lW [cz 7 (wm (.I Y 0))] (.block 6 (.L qs))) (lW [cz 2 (wm (.B G))] (Im [2])))))))),[.tmp 2]⟩:=(li Tryz.func240 rfl).trans (by kernel_rfl)
end
end Go.Proofs.YtiaklhkdbokkhaaGreat.am
