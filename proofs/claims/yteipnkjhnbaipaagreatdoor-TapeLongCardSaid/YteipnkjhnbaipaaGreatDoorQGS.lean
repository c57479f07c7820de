/- Parts. No condition. -/
import Derived.KernelRfl
import Derived.Test.YteipnkjhnbaipaaGreatDoorQGR
set_option linter.all false
namespace Go.Proofs.YteipnkjhnbaipaaGreatDoor.am
open Go
open Bool renaming false->O
open Decidable renaming decide->aN
noncomputable section
set_option maxRecDepth 100000
set_option maxHeartbeats 0
def ag3:=(li Tryz.func182 rfl).trans (by cbv)
def ag4:=(li Tryz.func183 rfl).trans (by cbv)
def Vu:=(li Tryz.func184 rfl).trans (by cbv)
def Av:List KO:=rk (aG 184) 0
def mW:=(by have h:=(je Vu 0).trans (by cbv);rewrite [<-cC.eq_1]at h;exact h:Av=_)
def ag5:=(by have h:=Vu;rewrite [<-cC.eq_1,<-mW]at h;exact h:aG 184=_)
def Vv:=(li Tryz.func185 rfl).trans (by cbv)
def BV:KC:=oK (aG 185) 0
def nE:=(by have h:=(gL Vv 0).trans (by cbv);rewrite [<-cC.eq_1]at h;exact h:BV=_)
def ag6:=(by have h:=Vv;rewrite [<-cC.eq_1,<-nE]at h;exact h:aG 185=_)
def ag7:=(li Tryz.func186 rfl).trans (by cbv)
def acz:=(li Tryz.func187 rfl).trans (by cbv)
def ag8:=(by have h:=acz;rewrite [<-ai.eq_1]at h;exact h:aG 187=_)
def ag9:=(li Tryz.func188 rfl).trans (by cbv)
def Vw:=(li Tryz.func189 rfl).trans (by cbv)
def FU:KC:=oK (aG 189) 0
def lB:=(by have h:=(gL Vw 0).trans (by cbv);rewrite [<-cC.eq_1]at h;exact h:FU=_)
def ag_:=(by have h:=Vw;rewrite [<-cC.eq_1,<-lB]at h;exact h:aG 189=_)
def Vx:=(li Tryz.func190 rfl).trans (by cbv)
def IW:List KO:=rk (aG 190) 15
def kX:=(by have h:=(je Vx 15).trans (by cbv);rewrite [<-cC.eq_1]at h;exact h:IW=_)
def NX:=(by have h:=Vx;rewrite [<-ad.eq_1,<-cC.eq_1,<-kX]at h;exact h:aG 190=_)
def Vy:=(li Tryz.func196 rfl).trans (by cbv)
def fC:KC:=oK (aG 196) 0
def dh:=(by have h:=(gL Vy 0).trans (by cbv);exact h:fC=_)
def aha:=(by have h:=Vy;rewrite [<-dh]at h;exact h:aG 196=_)
def Ci:=(li Tryz.func197 rfl).trans (by cbv)
def yG:List KO:=rk (aG 197) 1
def vR:=(by have h:=(je Ci 1).trans (by cbv);exact h:yG=_)
def yH:List KO:=rk (aG 197) 4
def vT:=(by have h:=(je Ci 4).trans (by cbv);exact h:yH=_)
def yI:List KO:=rk (aG 197) 8
def vU:=(by have h:=(je Ci 8).trans (by cbv);exact h:yI=_)
def yJ:List KO:=rk (aG 197) 10
def vV:=(by have h:=(je Ci 10).trans (by cbv);exact h:yJ=_)
def yK:List KO:=rk (aG 197) 12
def vW:=(by have h:=(je Ci 12).trans (by cbv);exact h:yK=_)
def yL:List KO:=rk (aG 197) 14
def vX:=(by have h:=(je Ci 14).trans (by cbv);exact h:yL=_)
def ahb:=(by have h:=Ci;rewrite [<-vR,<-vT,<-vU,<-vV,<-vW,<-vX]at h;exact h:aG 197=_)
def ahc:=(li Tryz.func198 rfl).trans (by cbv)
def ahd:=(li Tryz.func199 rfl).trans (by cbv)
def ahe:=(li Tryz.func200 rfl).trans (by cbv)
def Vz:=(li Tryz.func201 rfl).trans (by cbv)
def Ec:List KO:=rk (aG 201) 1
def ve:=(by have h:=(je Vz 1).trans (by cbv);exact h:Ec=_)
def ahf:=(by have h:=Vz;rewrite [<-ve]at h;exact h:aG 201=_)
def ahg:=(li Tryz.func202 rfl).trans (by cbv)
def ahh:=(li Tryz.func203 rfl).trans (by cbv)
def agO:=(li Tryz.func204 rfl).trans (by cbv)
def ahi:=(li Tryz.func205 rfl).trans (by cbv)
def VA:=(li Tryz.func206 rfl).trans (by cbv)
def Da:List KO:=rk (aG 206) 1
def tW:=(by have h:=(je VA 1).trans (by cbv);exact h:Da=_)
def agQ:=(by have h:=VA;rewrite [<-tW]at h;exact h:aG 206=_)
def VB:=(li Tryz.func207 rfl).trans (by cbv)
def Ed:List KO:=rk (aG 207) 1
def mX:=(by have h:=(je VB 1).trans (by cbv);exact h:Ed=_)
def aaA:=(by have h:=VB;rewrite [<-mX]at h;exact h:aG 207=_)
def acA:=(li Tryz.func212 rfl).trans (by cbv)
def aaB:=(by have h:=acA;rewrite [<-cC.eq_1]at h;exact h:aG 212=_)
def ahj:=(li Tryz.func213 rfl).trans (by cbv)
def ahk:=(li Tryz.func214 rfl).trans (by cbv)
def ahl:=(li Tryz.func215 rfl).trans (by cbv)
def PX:=(li Tryz.func216 rfl).trans (by cbv)
def FV:List KO:=rk (aG 216) 5
def fw:=(by have h:=(je PX 5).trans (by cbv);exact h:FV=_)
def yM:KC:=oK (aG 216) 0
def jU:=(by have h:=(gL PX 0).trans (by cbv);rewrite [<-fw]at h;exact h:yM=_)
def ahm:=(by have h:=PX;rewrite [<-fw,<-jU]at h;exact h:aG 216=_)
def VC:=(li Tryz.func217 rfl).trans (by cbv)
def qK:KC:=oK (aG 217) 0
def dv:=(by have h:=(gL VC 0).trans (by cbv);rewrite [<-ai.eq_1]at h;exact h:qK=_)
def ahn:=(by have h:=VC;rewrite [<-cC.eq_1,<-ai.eq_1,<-dv]at h;exact h:aG 217=_)
def aho:=(li Tryz.func218 rfl).trans (by cbv)
def ahp:=(li Tryz.func219 rfl).trans (by cbv)
def ahq:=(li Tryz.func220 rfl).trans (by cbv)
def acB:=(li Tryz.func221 rfl).trans (by cbv)
def aaC:=(by have h:=acB;rewrite [<-cC.eq_1,<-ai.eq_1]at h;exact h:aG 221=_)
def VD:=(li Tryz.func222 rfl).trans (by cbv)
def Aw:KC:=oK (aG 222) 0
def mo:=(by have h:=(gL VD 0).trans (by cbv);rewrite [<-cC.eq_1,<-lC.eq_1,<-ai.eq_1]at h;exact h:Aw=_)
def ahr:=(by have h:=VD;rewrite [<-cC.eq_1,<-lC.eq_1,<-ai.eq_1,<-mo]at h;exact h:aG 222=_)
def PY:=(li Tryz.func225 rfl).trans (by cbv)
def Ee:List KO:=rk (aG 225) 4
def jq:=(by have h:=(je PY 4).trans (by cbv);exact h:Ee=_)
def w9:KC:=oK (aG 225) 0
def iv:=(by have h:=(gL PY 0).trans (by cbv);rewrite [<-jq]at h;exact h:w9=_)
def ahs:=(by have h:=PY;rewrite [<-jq,<-iv]at h;exact h:aG 225=_)
def VE:=(li Tryz.func226 rfl).trans (by cbv)
def w_:KC:=oK (aG 226) 0
def jr:=(by have h:=(gL VE 0).trans (by cbv);exact h:w_=_)
def aht:=(by have h:=VE;rewrite [<-jr]at h;exact h:aG 226=_)
def VF:=(li Tryz.func227 rfl).trans (by cbv)
def fm:KC:=oK (aG 227) 0
def da:=(by have h:=(gL VF 0).trans (by cbv);exact h:fm=_)
def ahu:=(by have h:=VF;rewrite [<-da]at h;exact h:aG 227=_)
def VG:=(li Tryz.func228 rfl).trans (by cbv)
def gi:KC:=oK (aG 228) 0
def ew:=(by have h:=(gL VG 0).trans (by cbv);exact h:gi=_)
def ahv:=(by have h:=VG;rewrite [<-ew]at h;exact h:aG 228=_)
def PZ:=(li Tryz.func229 rfl).trans (by cbv)
def FW:List KO:=rk (aG 229) 1
def fz:=(by have h:=(je PZ 1).trans (by cbv);exact h:FW=_)
def yO:KC:=oK (aG 229) 0
def ds:=(by have h:=(gL PZ 0).trans (by cbv);rewrite [<-ai.eq_1]at h;exact h:yO=_)
def ahw:=(by have h:=PZ;rewrite [<-ai.eq_1,<-fz,<-ds]at h;exact h:aG 229=_)
def VH:=(li Tryz.func230 rfl).trans (by cbv)
def fD:KC:=oK (aG 230) 0
def dj:=(by have h:=(gL VH 0).trans (by cbv);exact h:fD=_)
def ahx:=(by have h:=VH;rewrite [<-dj]at h;exact h:aG 230=_)
def P0:=(li Tryz.func231 rfl).trans (by cbv)
def Ef:List KO:=rk (aG 231) 7
def kv:=(by have h:=(je P0 7).trans (by cbv);exact h:Ef=_)
def Eg:List KO:=rk (aG 231) 9
def mY:=(by have h:=(je P0 9).trans (by cbv);exact h:Eg=_)
def ahy:=(by have h:=P0;rewrite [<-kv,<-mY]at h;exact h:aG 231=_)
def ahz:=(li Tryz.func232 rfl).trans (by cbv)
def ahA:=(li Tryz.func233 rfl).trans (by cbv)
def ahB:=(li Tryz.func236 rfl).trans (by cbv)
def ahC:=(li Tryz.func237 rfl).trans (by cbv)
def ahD:=(li Tryz.func238 rfl).trans (by cbv)
def ahE:=(li Tryz.func239 rfl).trans (by cbv)
def ahF:=(li Tryz.func240 rfl).trans (by cbv)
def P1:=(li Tryz.func241 rfl).trans (by cbv)
def yQ:KC:=oK (aG 241) 0
def lD:=(by have h:=(gL P1 0).trans (by cbv);exact h:yQ=_)
def yR:KC:=oK (aG 241) 1
def lE:=(by have h:=(gL P1 1).trans (by cbv);exact h:yR=_)
def ahG:=(by have h:=P1;rewrite [<-cC.eq_1,<-lD,<-lE]at h;exact h:aG 241=_)
def ahH:=(li Tryz.func242 rfl).trans (by cbv)
def ahI:=(li Tryz.func243 rfl).trans (by cbv)
def ahJ:=(li Tryz.func244 rfl).trans (by cbv)
def VI:=(li Tryz.func245 rfl).trans (by cbv)
def vY:KC:=oK (aG 245) 0
def ja:=(by have h:=(gL VI 0).trans (by cbv);exact h:vY=_)
def ahK:=(by have h:=VI;rewrite [<-ja]at h;exact h:aG 245=_)
def ahL:=(li Tryz.func246 rfl).trans (by cbv)
def VJ:=(li Tryz.func247 rfl).trans (by cbv)
def e9:KC:=oK (aG 247) 0
def cT:=(by have h:=(gL VJ 0).trans (by cbv);exact h:e9=_)
def ahM:=(by have h:=VJ;rewrite [<-cT]at h;exact h:aG 247=_)
def ahN:=(li Tryz.func248 rfl).trans (by cbv)
def ahO:=(li Tryz.func249 rfl).trans (by cbv)
def acC:=(li Tryz.func250 rfl).trans (by cbv)
def ahP:=(by have h:=acC;rewrite [<-cC.eq_1]at h;exact h:aG 250=_)
def VK:=(li Tryz.func251 rfl).trans (by cbv)
def FX:List KO:=rk (aG 251) 2
def vZ:=(by have h:=(je VK 2).trans (by cbv);exact h:FX=_)
def ahQ:=(by have h:=VK;rewrite [<-vZ]at h;exact h:aG 251=_)
def VL:=(li Tryz.func252 rfl).trans (by cbv)
def qj:KC:=oK (aG 252) 0
def fF:=(by have h:=(gL VL 0).trans (by cbv);exact h:qj=_)
def ahR:=(by have h:=VL;rewrite [<-fF]at h;exact h:aG 252=_)
def VM:=(li Tryz.func253 rfl).trans (by cbv)
def qk:KC:=oK (aG 253) 0
def fG:=(by have h:=(gL VM 0).trans (by cbv);exact h:qk=_)
def ahS:=(by have h:=VM;rewrite [<-fG]at h;exact h:aG 253=_)
def ahT:=(li Tryz.func254 rfl).trans (by cbv)
def ahU:=(li Tryz.func255 rfl).trans (by cbv)
def VN:=(li Tryz.func256 rfl).trans (by cbv)
def kx:KC:=oK (aG 256) 0
def df:=(by have h:=(gL VN 0).trans (by cbv);exact h:kx=_)
def ahV:=(by have h:=VN;rewrite [<-df]at h;exact h:aG 256=_)
def ahW:=(li Tryz.func257 rfl).trans (by cbv)
def VO:=(li Tryz.func258 rfl).trans (by cbv)
def gq:KC:=oK (aG 258) 0
def dG:=(by have h:=(gL VO 0).trans (by cbv);exact h:gq=_)
def ahX:=(by have h:=VO;rewrite [<-dG]at h;exact h:aG 258=_)
def VP:=(li Tryz.func259 rfl).trans (by cbv)
def BB:List KO:=rk (aG 259) 1
def rP:=(by have h:=(je VP 1).trans (by cbv);exact h:BB=_)
def ahY:=(by have h:=VP;rewrite [<-rP]at h;exact h:aG 259=_)
def ahZ:=(li Tryz.func260 rfl).trans (by cbv)
end
noncomputable section
@[simp low]def akk(f:Nat):rV f=O:=by rw[wU];simp[rV];try omega
@[simp low]def akl(f:Nat):Ya f=(aN (f=143)):=by rw[wU];simp[Ya];try omega
end
end Go.Proofs.YteipnkjhnbaipaaGreatDoor.am
