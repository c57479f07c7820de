/- Parts. No condition. -/
import Derived.KernelRfl
import Derived.Test.YtiaklhkdbokkhaaGreatQGQ
set_option linter.all false
namespace Go.Proofs.YtiaklhkdbokkhaaGreat.am
open Go
open Option renaming some->J,none->M
open Bool renaming false->O,true->G
open Go.IntKind renaming i64->Y,u64->U
open Decidable renaming decide->b_
open Go.Proofs.YtiaklhkdbokkhaaGreat.am renaming bm->H
noncomputable section
set_option maxRecDepth 100000
set_option maxHeartbeats 0
def ag0:=(li Tryz.func157 rfl).trans (by cbv)
def FQ:KC:=kP (ax 157) 0
def pO:=(by have h:=(dP ag0 0).trans (by cbv);exact h:FQ=_)
def axB:=(by have h:=ag0;rewrite [<-pO]at h;exact h:ax 157=_)
def ag1:=(li Tryz.func158 rfl).trans (by cbv)
def Fw:KC:=kP (ax 158) 0
def nP:=(by have h:=(dP ag1 0).trans (by cbv);exact h:Fw=_)
def awq:=(by have h:=ag1;rewrite [<-nP]at h;exact h:ax 158=_)
def aqR:=(li Tryz.func159 rfl).trans (by cbv)
def aws:=(by have h:=aqR;rewrite [<-gS.eq_1]at h;exact h:ax 159=_)
def ag2:=(li Tryz.func160 rfl).trans (by cbv)
def xu:KC:=kP (ax 160) 0
def ji:=(by have h:=(dP ag2 0).trans (by cbv);exact h:xu=_)
def awp:=(by have h:=ag2;rewrite [<-gS.eq_1,<-ji]at h;exact h:ax 160=_)
def awm:=(li Tryz.func161 rfl).trans (by cbv)
def avZ:=(li Tryz.func162 rfl).trans (by cbv)
def avX:=(li Tryz.func164 rfl).trans (by cbv)
def ZT:=(li Tryz.func165 rfl).trans (by cbv)
def xq:KC:=kP (ax 165) 0
def kX:=(by have h:=(dP ZT 0).trans (by cbv);exact h:xq=_)
def xr:KC:=kP (ax 165) 1
def kY:=(by have h:=(dP ZT 1).trans (by cbv);exact h:xr=_)
def av5:=(by have h:=ZT;rewrite [<-gS.eq_1,<-kX,<-kY]at h;exact h:ax 165=_)
def ZU:=(li Tryz.func166 rfl).trans (by cbv)
def xn:KC:=kP (ax 166) 0
def kV:=(by have h:=(dP ZU 0).trans (by cbv);exact h:xn=_)
def xo:KC:=kP (ax 166) 1
def kW:=(by have h:=(dP ZU 1).trans (by cbv);exact h:xo=_)
def av2:=(by have h:=ZU;rewrite [<-gS.eq_1,<-kV,<-kW]at h;exact h:ax 166=_)
def ag3:=(li Tryz.func167 rfl).trans (by cbv)
def yo:KC:=kP (ax 167) 0
def eM:=(by have h:=(dP ag3 0).trans (by cbv);rewrite [<-ah.eq_1]at h;exact h:yo=_)
def axC:=(by have h:=ag3;rewrite [<-ah.eq_1,<-eM]at h;exact h:ax 167=_)
def ag4:=(li Tryz.func168 rfl).trans (by cbv)
def FR:KC:=kP (ax 168) 0
def mf:=(by have h:=(dP ag4 0).trans (by cbv);exact h:FR=_)
def axD:=(by have h:=ag4;rewrite [<-mf]at h;exact h:ax 168=_)
def axE:=(li Tryz.func169 rfl).trans (by cbv)
def axF:=(li Tryz.func170 rfl).trans (by cbv)
def ag5:=(li Tryz.func171 rfl).trans (by cbv)
def Dz:KC:=kP (ax 171) 0
def oO:=(by have h:=(dP ag5 0).trans (by cbv);rewrite [<-ah.eq_1]at h;exact h:Dz=_)
def axG:=(by have h:=ag5;rewrite [<-ah.eq_1,<-oO]at h;exact h:ax 171=_)
def ag6:=(li Tryz.func172 rfl).trans (by cbv)
def FT:KC:=kP (ax 172) 0
def pQ:=(by have h:=(dP ag6 0).trans (by cbv);exact h:FT=_)
def axH:=(by have h:=ag6;rewrite [<-pQ]at h;exact h:ax 172=_)
def axI:=(li Tryz.func173 rfl).trans (by cbv)
def ag7:=(li Tryz.func174 rfl).trans (by cbv)
def kC:KC:=kP (ax 174) 0
def ju:=(by have h:=(dP ag7 0).trans (by cbv);exact h:kC=_)
def axJ:=(by have h:=ag7;rewrite [<-ju]at h;exact h:ax 174=_)
def ag8:=(li Tryz.func175 rfl).trans (by cbv)
def k7:KC:=kP (ax 175) 0
def jL:=(by have h:=(dP ag8 0).trans (by cbv);exact h:k7=_)
def axK:=(by have h:=ag8;rewrite [<-jL]at h;exact h:ax 175=_)
def axL:=(li Tryz.func176 rfl).trans (by cbv)
def ZV:=(li Tryz.func177 rfl).trans (by cbv)
def ME:List KO:=yb (ax 177) 5
def gP:=(by have h:=(nd ZV 5).trans (by cbv);exact h:ME=_)
def DA:KC:=kP (ax 177) 0
def m9:=(by have h:=(dP ZV 0).trans (by cbv);rewrite [<-gP]at h;exact h:DA=_)
def axM:=(by have h:=ZV;rewrite [<-gP,<-m9]at h;exact h:ax 177=_)
def axN:=(li Tryz.func178 rfl).trans (by cbv)
def ag9:=(li Tryz.func179 rfl).trans (by cbv)
def uX:KC:=kP (ax 179) 0
def eB:=(by have h:=(dP ag9 0).trans (by cbv);rewrite [<-ah.eq_1]at h;exact h:uX=_)
def axO:=(by have h:=ag9;rewrite [<-fW.eq_1,<-ah.eq_1,<-eB]at h;exact h:ax 179=_)
def axP:=(li Tryz.func180 rfl).trans (by cbv)
def axQ:=(li Tryz.func181 rfl).trans (by cbv)
def axR:=(li Tryz.func182 rfl).trans (by cbv)
def axS:=(li Tryz.func183 rfl).trans (by cbv)
def axT:=(li Tryz.func184 rfl).trans (by cbv)
def aqS:=(li Tryz.func185 rfl).trans (by cbv)
def aoc:=(by have h:=aqS;rewrite [<-fW.eq_1,<-ah.eq_1]at h;exact h:ax 185=_)
def ag_:=(li Tryz.func186 rfl).trans (by cbv)
def FU:KC:=kP (ax 186) 0
def pR:=(by have h:=(dP ag_ 0).trans (by cbv);rewrite [<-fW.eq_1,<-oN.eq_1,<-ah.eq_1]at h;exact h:FU=_)
def axU:=(by have h:=ag_;rewrite [<-fW.eq_1,<-oN.eq_1,<-ah.eq_1,<-pR]at h;exact h:ax 186=_)
def awn:=(li Tryz.func187 rfl).trans (by cbv)
def awR:=(li Tryz.func188 rfl).trans (by cbv)
def aqT:=(li Tryz.func189 rfl).trans (by cbv)
def awU:=(by have h:=aqT;rewrite [<-aP.eq_1,<-gS.eq_1]at h;exact h:ax 189=_)
def Uo:=(li Tryz.func190 rfl).trans (by cbv)
def CJ:List KO:=yb (ax 190) 3
def fX:=(by have h:=(nd Uo 3).trans (by cbv);exact h:CJ=_)
def CK:List KO:=yb (ax 190) 4
def fY:=(by have h:=(nd Uo 4).trans (by cbv);exact h:CK=_)
def uY:KC:=kP (ax 190) 0
def fZ:=(by have h:=(dP Uo 0).trans (by cbv);rewrite [<-fX,<-fY]at h;exact h:uY=_)
def axV:=(by have h:=Uo;rewrite [<-fX,<-fY,<-fZ]at h;exact h:ax 190=_)
def axW:=(li Tryz.func191 rfl).trans (by cbv)
def O6:=(li Tryz.func192 rfl).trans (by cbv)
def D3:List KO:=yb (ax 192) 1
def fg:=(by have h:=(nd O6 1).trans (by cbv);exact h:D3=_)
def vO:KC:=kP (ax 192) 0
def kt:=(by have h:=(dP O6 0).trans (by cbv);exact h:vO=_)
def vQ:KC:=kP (ax 192) 1
def ku:=(by have h:=(dP O6 1).trans (by cbv);exact h:vQ=_)
def vR:KC:=kP (ax 192) 2
def kv:=(by have h:=(dP O6 2).trans (by cbv);exact h:vR=_)
def avN:=(by have h:=O6;rewrite [<-fg,<-kt,<-ku,<-kv]at h;exact h:ax 192=_)
def Uq:=(li Tryz.func193 rfl).trans (by cbv)
def D4:List KO:=yb (ax 193) 1
def kp:=(by have h:=(nd Uq 1).trans (by cbv);exact h:D4=_)
def vK:KC:=kP (ax 193) 0
def kj:=(by have h:=(dP Uq 0).trans (by cbv);exact h:vK=_)
def vM:KC:=kP (ax 193) 1
def km:=(by have h:=(dP Uq 1).trans (by cbv);exact h:vM=_)
def avM:=(by have h:=Uq;rewrite [<-kp,<-kj,<-km]at h;exact h:ax 193=_)
def aha:=(li Tryz.func194 rfl).trans (by cbv)
def uN:KC:=kP (ax 194) 0
def im:=(by have h:=(dP aha 0).trans (by cbv);exact h:uN=_)
def aw4:=(by have h:=aha;rewrite [<-im]at h;exact h:ax 194=_)
def FV:=(li Tryz.func195 rfl).trans (by cbv)
def uO:List KO:=yb (ax 195) 2
def sR:=(by have h:=(nd FV 2).trans (by cbv);exact h:uO=_)
def uP:List KO:=yb (ax 195) 4
def sU:=(by have h:=(nd FV 4).trans (by cbv);exact h:uP=_)
def uQ:List KO:=yb (ax 195) 6
def sV:=(by have h:=(nd FV 6).trans (by cbv);rewrite [<-ah.eq_1]at h;exact h:uQ=_)
def uR:List KO:=yb (ax 195) 8
def sW:=(by have h:=(nd FV 8).trans (by cbv);rewrite [<-ah.eq_1]at h;exact h:uR=_)
def uS:List KO:=yb (ax 195) 11
def sX:=(by have h:=(nd FV 11).trans (by cbv);exact h:uS=_)
def CM:List KD:=dwK (ax 195) 0
def jK:=(by have h:=(ap0 FV 0).trans (by cbv);exact h:CM=_)
def qh:KC:=kP (ax 195) 0
def iq:=(by have h:=(dP FV 0).trans (by cbv);rewrite [<-jK]at h;exact h:qh=_)
def aw8:=(by have h:=FV;rewrite [<-ah.eq_1,<-sR,<-sU,<-sV,<-sW,<-sX,<-jK,<-iq]at h;exact h:ax 195=_)
def ahb:=(li Tryz.func196 rfl).trans (by cbv)
def vJ:KC:=kP (ax 196) 0
def ki:=(by have h:=(dP ahb 0).trans (by cbv);exact h:vJ=_)
def avL:=(by have h:=ahb;rewrite [<-ki]at h;exact h:ax 196=_)
def ahc:=(li Tryz.func197 rfl).trans (by cbv)
def vX:KC:=kP (ax 197) 0
def iS:=(by have h:=(dP ahc 0).trans (by cbv);exact h:vX=_)
def axX:=(by have h:=ahc;rewrite [<-cx.eq_1,<-iS]at h;exact h:ax 197=_)
def ahd:=(li Tryz.func198 rfl).trans (by cbv)
def xB:KC:=kP (ax 198) 0
def g9:=(by have h:=(dP ahd 0).trans (by cbv);exact h:xB=_)
def axY:=(by have h:=ahd;rewrite [<-cx.eq_1,<-g9]at h;exact h:ax 198=_)
def ZW:=(li Tryz.func199 rfl).trans (by cbv)
def uZ:KC:=kP (ax 199) 0
def iu:=(by have h:=(dP ZW 0).trans (by cbv);exact h:uZ=_)
def u4:KC:=kP (ax 199) 1
def jM:=(by have h:=(dP ZW 1).trans (by cbv);rewrite [<-iu]at h;exact h:u4=_)
def axZ:=(by have h:=ZW;rewrite [<-cx.eq_1,<-iu,<-jM]at h;exact h:ax 199=_)
def ahe:=(li Tryz.func200 rfl).trans (by cbv)
def u6:KC:=kP (ax 200) 0
def jN:=(by have h:=(dP ahe 0).trans (by cbv);exact h:u6=_)
def ax0:=(by have h:=ahe;rewrite [<-cx.eq_1,<-jN]at h;exact h:ax 200=_)
def ax1:=(li Tryz.func201 rfl).trans (by cbv)
def ahf:=(li Tryz.func202 rfl).trans (by cbv)
def u7:KC:=kP (ax 202) 0
def jO:=(by have h:=(dP ahf 0).trans (by cbv);exact h:u7=_)
def ax2:=(by have h:=ahf;rewrite [<-aP.eq_1,<-jO]at h;exact h:ax 202=_)
def Ur:=(li Tryz.func203 rfl).trans (by cbv)
def vY:KC:=kP (ax 203) 0
def eN:=(by have h:=(dP Ur 0).trans (by cbv);exact h:vY=_)
def vZ:KC:=kP (ax 203) 1
def kD:=(by have h:=(dP Ur 1).trans (by cbv);rewrite [<-eN]at h;exact h:vZ=_)
def v8:KC:=kP (ax 203) 2
def kE:=(by have h:=(dP Ur 2).trans (by cbv);rewrite [<-eN,<-kD]at h;exact h:v8=_)
def ax3:=(by have h:=Ur;rewrite [<-eN,<-kD,<-kE]at h;exact h:ax 203=_)
def KM:=(li Tryz.func204 rfl).trans (by cbv)
def xC:KC:=kP (ax 204) 0
def k8:=(by have h:=(dP KM 0).trans (by cbv);exact h:xC=_)
def r8:KC:=kP (ax 204) 1
def g_:=(by have h:=(dP KM 1).trans (by cbv);exact h:r8=_)
def xD:KC:=kP (ax 204) 2
def k9:=(by have h:=(dP KM 2).trans (by cbv);exact h:xD=_)
def xE:KC:=kP (ax 204) 3
def jj:=(by have h:=(dP KM 3).trans (by cbv);exact h:xE=_)
def xF:KC:=kP (ax 204) 4
def k_:=(by have h:=(dP KM 4).trans (by cbv);rewrite [<-jj]at h;exact h:xF=_)
def ax4:=(by have h:=KM;rewrite [<-k8,<-g_,<-k9,<-jj,<-k_]at h;exact h:ax 204=_)
def aqU:=(li Tryz.func205 rfl).trans (by cbv)
def ax5:=(by have h:=aqU;rewrite [<-FW.eq_1]at h;exact h:ax 205=_)
def aod:=(li Tryz.func206 rfl).trans (by cbv)
def ahg:=(li Tryz.func207 rfl).trans (by cbv)
def tX:KC:=kP (ax 207) 0
def gX:=(by have h:=(dP ahg 0).trans (by cbv);exact h:tX=_)
def ax6:=(by have h:=ahg;rewrite [<-gX]at h;exact h:ax 207=_)
def ax7:=(li Tryz.func208 rfl).trans (by cbv)
def ax8:=(li Tryz.func209 rfl).trans (by cbv)
def ax9:=(li Tryz.func210 rfl).trans (by cbv)
def ahh:=(li Tryz.func211 rfl).trans (by cbv)
def tR:KC:=kP (ax 211) 0
def js:=(by have h:=(dP ahh 0).trans (by cbv);exact h:tR=_)
def avz:=(by have h:=ahh;rewrite [<-js]at h;exact h:ax 211=_)
def ahi:=(li Tryz.func212 rfl).trans (by cbv)
def tU:KC:=kP (ax 212) 0
def jt:=(by have h:=(dP ahi 0).trans (by cbv);exact h:tU=_)
def avA:=(by have h:=ahi;rewrite [<-jt]at h;exact h:ax 212=_)
def ahj:=(li Tryz.func213 rfl).trans (by cbv)
def pL:KC:=kP (ax 213) 0
def fO:=(by have h:=(dP ahj 0).trans (by cbv);rewrite [<-ah.eq_1]at h;exact h:pL=_)
def avB:=(by have h:=ahj;rewrite [<-ah.eq_1,<-fO]at h;exact h:ax 213=_)
def ahk:=(li Tryz.func214 rfl).trans (by cbv)
def MF:List KO:=yb (ax 214) 1
def rD:=(by have h:=(nd ahk 1).trans (by cbv);exact h:MF=_)
def aoe:=(by have h:=ahk;rewrite [<-rD]at h;exact h:ax 214=_)
def ahl:=(li Tryz.func215 rfl).trans (by cbv)
def pj:KC:=kP (ax 215) 0
def fH:=(by have h:=(dP ahl 0).trans (by cbv);exact h:pj=_)
def avC:=(by have h:=ahl;rewrite [<-fH]at h;exact h:ax 215=_)
def ax_:=(li Tryz.func216 rfl).trans (by cbv)
def ahm:=(li Tryz.func217 rfl).trans (by cbv)
def QG:List KO:=yb (ax 217) 1
def cE:=(by have h:=(nd ahm 1).trans (by cbv);rewrite [<-ah.eq_1]at h;exact h:QG=_)
def Xi:=(by have h:=ahm;rewrite [<-ah.eq_1,<-cE]at h;exact h:ax 217=_)
def ahn:=(li Tryz.func218 rfl).trans (by cbv)
def O7:List KO:=yb (ax 218) 1
def BQ:=(by have h:=(nd ahn 1).trans (by cbv);exact h:O7=_)
def aw1:=(by have h:=ahn;rewrite [<-BQ]at h;exact h:ax 218=_)
def aho:=(li Tryz.func219 rfl).trans (by cbv)
def MG:List KO:=yb (ax 219) 1
def rB:=(by have h:=(nd aho 1).trans (by cbv);exact h:MG=_)
def aw3:=(by have h:=aho;rewrite [<-rB]at h;exact h:ax 219=_)
def ahp:=(li Tryz.func220 rfl).trans (by cbv)
def AE:KC:=kP (ax 220) 0
def nj:=(by have h:=(dP ahp 0).trans (by cbv);exact h:AE=_)
def aya:=(by have h:=ahp;rewrite [<-nj]at h;exact h:ax 220=_)
def awY:=(li Tryz.func221 rfl).trans (by cbv)
def ayb:=(li Tryz.func222 rfl).trans (by cbv)
def ayc:=(li Tryz.func223 rfl).trans (by cbv)
def ayd:=(li Tryz.func224 rfl).trans (by cbv)
def ahq:=(li Tryz.func225 rfl).trans (by cbv)
def BU:KC:=kP (ax 225) 0
def eP:=(by have h:=(dP ahq 0).trans (by cbv);exact h:BU=_)
def aye:=(by have h:=ahq;rewrite [<-eP]at h;exact h:ax 225=_)
def ayf:=(li Tryz.func226 rfl).trans (by cbv)
def ayg:=(li Tryz.func228 rfl).trans (by cbv)
def ayh:=(li Tryz.func229 rfl).trans (by cbv)
def ayi:=(li Tryz.func230 rfl).trans (by cbv)
def ayj:=(li Tryz.func231 rfl).trans (by cbv)
def ayk:=(li Tryz.func232 rfl).trans (by cbv)
def ZX:=(li Tryz.func233 rfl).trans (by cbv)
def KN:List KO:=yb (ax 233) 4
def mj:=(by have h:=(nd ZX 4).trans (by cbv);exact h:KN=_)
def BV:KC:=kP (ax 233) 0
def j8:=(by have h:=(dP ZX 0).trans (by cbv);rewrite [<-mj]at h;exact h:BV=_)
def ayl:=(by have h:=ZX;rewrite [<-mj,<-j8]at h;exact h:ax 233=_)
def ahr:=(li Tryz.func234 rfl).trans (by cbv)
def BW:KC:=kP (ax 234) 0
def ml:=(by have h:=(dP ahr 0).trans (by cbv);exact h:BW=_)
def aym:=(by have h:=ahr;rewrite [<-ml]at h;exact h:ax 234=_)
def ZY:=(li Tryz.func235 rfl).trans (by cbv)
def MH:List KO:=yb (ax 235) 1
def gQ:=(by have h:=(nd ZY 1).trans (by cbv);exact h:MH=_)
def DB:KC:=kP (ax 235) 0
def ey:=(by have h:=(dP ZY 0).trans (by cbv);rewrite [<-ah.eq_1]at h;exact h:DB=_)
def ayn:=(by have h:=ZY;rewrite [<-ah.eq_1,<-gQ,<-ey]at h;exact h:ax 235=_)
def ZZ:=(li Tryz.func236 rfl).trans (by cbv)
def DD:KC:=kP (ax 236) 0
def oP:=(by have h:=(dP ZZ 0).trans (by cbv);exact h:DD=_)
def DE:KC:=kP (ax 236) 1
def oQ:=(by have h:=(dP ZZ 1).trans (by cbv);exact h:DE=_)
def ayo:=(by have h:=ZZ;rewrite [<-fW.eq_1,<-oP,<-oQ]at h;exact h:ax 236=_)
def aw0:=(li Tryz.func237 rfl).trans (by cbv)
def Z0:=(li Tryz.func238 rfl).trans (by cbv)
def D5:List KO:=yb (ax 238) 4
def pS:=(by have h:=(nd Z0 4).trans (by cbv);exact h:D5=_)
def v9:KC:=kP (ax 238) 0
def iT:=(by have h:=(dP Z0 0).trans (by cbv);rewrite [<-pS]at h;exact h:v9=_)
def ayp:=(by have h:=Z0;rewrite [<-pS,<-iT]at h;exact h:ax 238=_)
def ahs:=(li Tryz.func239 rfl).trans (by cbv)
def u9:KC:=kP (ax 239) 0
def iw:=(by have h:=(dP ahs 0).trans (by cbv);exact h:u9=_)
def ayq:=(by have h:=ahs;rewrite [<-iw]at h;exact h:ax 239=_)
def qj:List KO:=[ez 10 3,cz 11 (rq .lss 10 1),ez 12 11,Ms 13 12 3,pI 14 12 (rq .gtr 13 6),cz 15 (Mt 12 14),ez 16 15,Ms 17 16 3,pI 18 16 (rq .neq 17 1),Ms 19 16 18,q_x 20 19 3,Cd 21 19 (rq .neq 20 2),pI 22 16 (YT 19 21),Ms 23 16 22,Cd 24 23 (Ag 1 1),RF 25 23 (BA 24),Cd 26 23 (rq .neq 25 0),pI 27 16 (YT 23 26),cz 28 (Mt 16 27),ez 29 28,Ms 30 29 3,pI 31 29 (rq .neq 30 3),Ms 32 29 31,q_x 33 32 3,Cd 34 32 (rq .neq 33 4),pI 35 29 (YT 32 34),Ms 36 29 35,Cd 37 36 (Ag 2 1),RF 38 36 (BA 37),Cd 39 36 (.Qk .neq (.t 38) (.c (.S []))),pI 40 29 (YT 36 39),cz 41 (Mt 29 40),ez 42 41,Ms 43 42 3,pI 44 42 (rq .neq 43 5),Ms 45 42 44,Cd 46 45 (Ag 3 1),RF 47 45 (BA 46),Cd 48 45 (Ho 47),Cd 49 45 (rq .gtr 48 0),pI 50 42 (YT 45 49),cz 51 (Mt 42 50),ez 52 51,Ms 53 52 3,pI 54 52 (rq .neq 53 6),Ms 55 52 54,Cd 56 55 (Ag 4 1),RF 57 55 (BA 56),Cd 58 55 (Ho 57),Cd 59 55 (rq .gtr 58 0),pI 60 52 (YT 55 59),cz 61 (Mt 52 60)]
def Bd:=qj.eq_1
def qk:List KO:=[ez 62 3,cz 63 (rq .eql 62 1),ez 64 63,Cd 65 64 (Ag 1 1),RF 66 64 (BA 65),Cd 67 64 (rq .neq 66 0),cz 68 (YT 64 67),ez 69 68,Cd 70 69 (Ag 1 1),RF 71 69 (BA 70),Cd 72 69 (rq .neq 71 1),cz 73 (YT 69 72),ez 74 73,Ms 75 74 3,pI 76 74 (rq .eql 75 3),Ms 77 74 76,Cd 78 77 (Ag 2 1),RF 79 77 (BA 78),Cd 80 77 (q_S 79),Cd 81 77 (rq .gtr 80 64),pI 82 74 (YT 77 81),cz 83 (Mt 74 82),ez 84 83,Ms 85 84 3,pI 86 84 (rq .eql 85 4),Ms 87 84 86,Cd 88 87 (Ag 2 1),RF 89 87 (BA 88),RF 90 87 (qA 238 [89]),Cd 91 87 (q_U 90),pI 92 84 (YT 87 91),cz 93 (Mt 84 92),ez 94 93,pI 95 94 (Ag 3 1),DU 96 94 (BA 95),pI 97 94 (Ho 96),pI 98 94 (rq .gtr 97 8),cz 99 (Mt 94 98),ez 100 99,pI 101 100 (Ag 4 1),DU 102 100 (BA 101),pI 103 100 (Ho 102),pI 104 100 (rq .gtr 103 12),cz 105 (Mt 100 104),ez 106 105,pI 107 106 (Ag 5 1),DU 108 106 (BA 107),pI 109 106 (Ho 108),pI 110 106 (Ag 3 1),DU 111 106 (BA 110),pI 112 106 (Ho 111),pI 113 106 (Ag 4 1),DU 114 106 (BA 113),pI 115 106 (Ho 114),pI 116 106 (qd .add 112 115),pI 117 106 (qd .neq 109 116),cz 118 (Mt 106 117)]
def Be:=qk.eq_1
def u_:List KD:=[H (eG 126 3 1) 0 0,H (ds 127 126) 0 0,H (ez 128 4) 0 0,H (cz 129 (Ee 1 127 128)) 0 0,H (ds 130 129) 0 0,mI (dY 131 (qA 238 [130])) 0 1,H (cz 132 (q_U 131)) 1 1,H (ez 133 132) 1 1,H (Ms 134 133 4) 1 1,H (pI 135 133 (rq .gtr 134 0)) 1 1,H (Ms 136 133 135) 1 1,H (Cd 137 136 (Ag 3 1)) 1 1,H (RF 138 136 (BA 137)) 1 1,H (q_x 139 136 4) 1 1,H (Cd 140 136 (Ee 1 138 139)) 1 1,H (RF 141 136 (BA 140)) 1 1,H (Cd 142 136 (Ag 3 1)) 1 1,H (RF 143 136 (BA 142)) 1 1,H (q_x 144 136 4) 1 1,H (Cd 145 136 (rq .sub 144 1)) 1 1,H (Cd 146 136 (Ee 1 143 145)) 1 1,H (RF 147 136 (BA 146)) 1 1,H (Cd 148 136 (.Qk .leq (.t 141) (.t 147))) 1 1,H (pI 149 133 (YT 136 148)) 1 1,H (cz 150 (Mt 133 149)) 1 1]
def mC:=u_.eq_1
def qm:KC:=.dO [1,4] (.Q (lV [ez 119 4,eG 120 3 1,ds 121 120,cz 122 (Ho 121),cz 123 (qd .lss 119 122)] (.cond (.t 123) .skip (.dO [1] (.exit 0)))) (.Q (.block 1 (.Q (.draw [] u_) (.dO [1,4,150] (ux 150 (lV [cz 2 (wj (.B O))] (Il [2])))))) (.ops [ez 124 4,cz 125 (rq .add 124 1),ez 4 125])))
def jP:=qm.eq_1
def qo:KC:=.dO [1,5,6] (.Q (lV [ez 158 6,ez 159 5,cz 160 (qd .lss 158 159)] (.cond (.t 160) .skip (.dO [1,5] (.exit 4)))) (.Q (.block 5 (.Q (.draw [] [H (eG 163 4 1) 0 0,H (ds 164 163) 0 0,H (ez 165 5) 0 0,H (cz 166 (Ee 1 164 165)) 0 0,H (ds 167 166) 0 0,H (eG 168 4 1) 0 0,H (ds 169 168) 0 0,H (ez 170 6) 0 0,H (cz 171 (Ee 1 169 170)) 0 0,H (ds 172 171) 0 0,H (cz 173 (qd .eql 167 172)) 0 0]) (ux 173 (lV [cz 2 (wj (.B O))] (Il [2]))))) (.ops [ez 161 6,cz 162 (rq .add 161 1),ez 6 162])))
def mD:=qo.eq_1
def qp:KC:=.dO [1,5] (.Q (lV [ez 151 5,eG 152 4 1,ds 153 152,cz 154 (Ho 153),cz 155 (qd .lss 151 154)] (.cond (.t 155) .skip (.dO [1] (.exit 2)))) (.Q (.block 3 (.Q (lV [cz 6 (wj (.I Y 0))] (.block 4 (.L qo))) (lV [eG 174 4 1,ds 175 174,ez 176 5,cz 177 (Ee 1 175 176),ds 178 177,cz 179 (.Qj .eql (.t 178) (.c (.I U 0)))] (ux 179 (lV [cz 2 (wj (.B O))] (Il [2])))))) (.ops [ez 156 5,cz 157 (rq .add 156 1),ez 5 157])))
def mE:=qp.eq_1
def qq:KC:=.dO [1,7] (.Q (lV [ez 180 7,eG 181 5 1,ds 182 181,cz 183 (Ho 182),cz 184 (qd .lss 180 183)] (.cond (.t 184) .skip (.dO [] (.exit 6)))) (.Q (.block 7 (lV [eG 187 5 1,ds 188 187,ez 189 7,cz 190 (Ee 6 188 189),dY 191 (dW 6 190),dY 192 (qA 240 [191]),cz 193 (q_U 192)] (ux 193 (lV [cz 2 (wj (.B O))] (Il [2]))))) (.ops [ez 185 7,cz 186 (rq .add 185 1),ez 7 186])))
def mF:=qq.eq_1
def ayr:ax 240=J ⟨194,lV [dY 1 (YU 6 0),cz 2 (wj (.B O))] (lV [eG 8 0 1,ds 9 8,ez 3 9] (.Q (lV qj (.dO [1,3,61] (ux 61 (lV [cz 2 (wj (.B O))] (Il [2]))))) (.Q (lV qk (.dO [1,118] (ux 118 (lV [cz 2 (wj (.B O))] (Il [2]))))) (.Q (lV [cz 4 (wj (.I Y 0))] (.block 0 (.L qm))) (.Q (lV [cz 5 (wj (.I Y 0))] (.block 2 (.L qp))) (.Q (lV [cz 7 (wj (.I Y 0))] (.block 6 (.L qq))) (lV [cz 2 (wj (.B G))] (Il [2])))))))),[.tmp 2]⟩:=(li Tryz.func240 rfl).trans (by kernel_rfl)
end
end Go.Proofs.YtiaklhkdbokkhaaGreat.am
