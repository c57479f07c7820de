/- Parts. No condition. -/
import Derived.KernelRfl
import Derived.Test.YtnhnmkgfgfmmhaaGreatDoorQGR
set_option linter.all false
namespace Go.Proofs.YtnhnmkgfgfmmhaaGreatDoor.am
open Go
open Bool renaming false->O
open Decidable renaming decide->bN
noncomputable section
set_option maxRecDepth 100000
set_option maxHeartbeats 0
def SB:=(li Tryz.func190 rfl).trans (by cbv)
def Bw:List KO:=qM (aC 190) 1
def r_:=(by have h:=(jb SB 1).trans (by cbv);exact h:Bw=_)
def adj:=(by have h:=SB;rewrite [<-r_]at h;exact h:aC 190=_)
def SC:=(li Tryz.func191 rfl).trans (by cbv)
def Cq:List KO:=qM (aC 191) 1
def l8:=(by have h:=(jb SC 1).trans (by cbv);exact h:Cq=_)
def Xn:=(by have h:=SC;rewrite [<-l8]at h;exact h:aC 191=_)
def SD:=(li Tryz.func192 rfl).trans (by cbv)
def pD:KC:=nY (aC 192) 0
def fj:=(by have h:=(gF SD 0).trans (by cbv);exact h:pD=_)
def adL:=(by have h:=SD;rewrite [<-fj]at h;exact h:aC 192=_)
def l9:List KO:=[gS 7 0 1,gA 8 7,eT 9 (r8 .lss 8 1),jk 10 9,lq 11 10 (tC 0 1),xe 12 10 (uX 11),lq 13 10 (r8 .gtr 12 6),eT 14 (DK 10 13),jk 15 14,lq 16 15 (tC 1 1),xe 17 15 (uX 16),lq 18 15 (AQ 17),lq 19 15 (r8 .gtr 18 8),eT 20 (DK 15 19),jk 21 20,lq 22 21 (tC 0 1),xe 23 21 (uX 22),lq 24 21 (r8 .neq 23 4),DJ 25 21 24,vG 26 25 (tC 0 1),Hz 27 25 (uX 26),vG 28 25 (r8 .neq 27 5),lq 29 21 (MZ 25 28),DJ 30 21 29,vG 31 30 (tC 1 1),Hz 32 30 (uX 31),vG 33 30 (AQ 32),vG 34 30 (r8 .gtr 33 0),lq 35 21 (MZ 30 34),eT 36 (DK 21 35),jk 37 36,lq 38 37 (tC 0 1),xe 39 37 (uX 38),lq 40 37 (r8 .eql 39 4),DJ 41 37 40,vG 42 41 (tC 1 1),Hz 43 41 (uX 42),vG 44 41 (AQ 43),vG 45 41 (r8 .eql 44 0),lq 46 37 (MZ 41 45),eT 47 (DK 37 46)]
def uB:=l9.eq_1
def pE:List KD:=[dS (gS 81 1 1) 0 0,dS (gA 82 81) 0 0,dS (jk 83 4) 0 0,dS (eT 84 (Cd 1 82 83)) 0 0,dS (gA 85 84) 0 0,dS (gS 86 1 1) 0 0,dS (gA 87 86) 0 0,dS (jk 88 5) 0 0,dS (eT 89 (Cd 1 87 88)) 0 0,dS (gA 90 89) 0 0,dS (eT 91 (.Gu .eql (.t 85) (.t 90))) 0 0,dS (jk 92 91) 0 0,dS (lq 93 92 (tC 0 1)) 0 0,dS (xe 94 92 (uX 93)) 0 0,dS (lq 95 92 (r8 .eql 94 5)) 0 0,dS (DJ 96 92 95) 0 0,dS (vG 97 96 (tC 1 1)) 0 0,dS (Hz 98 96 (uX 97)) 0 0,dS (q_x 99 96 4) 0 0,dS (vG 100 96 (Cd 1 98 99)) 0 0,dS (Hz 101 96 (uX 100)) 0 0,dS (vG 102 96 (tC 1 1)) 0 0,dS (Hz 103 96 (uX 102)) 0 0,dS (q_x 104 96 5) 0 0,dS (vG 105 96 (Cd 1 103 104)) 0 0,dS (Hz 106 96 (uX 105)) 0 0,dS (vG 107 96 (.Gu .lss (.t 101) (.t 106))) 0 0,dS (lq 108 92 (MZ 96 107)) 0 0,dS (eT 109 (DK 92 108)) 0 0]
def iT:=pE.eq_1
def l_:KC:=.ds [1,4,5] (.Q (mn [jk 76 5,jk 77 4,eT 78 (Gp .lss 76 77)] (.cond (.t 78) .skip (.ds [1,4] (.exit 2)))) (.Q (.block 3 (.Q (.draw [] pE) (.ds [1,4,5,109] (pZ 109 (mn [eT 2 (tT (.B false))] (DL [2])))))) (.ops [jk 79 5,eT 80 (r8 .add 79 1),jk 5 80])))
def fm:=l_.eq_1
def jE:KC:=.ds [1,4] (.Q (mn [jk 62 4,gS 63 1 1,gA 64 63,eT 65 (AQ 64),eT 66 (Gp .lss 62 65)] (.cond (.t 66) .skip (.ds [1] (.exit 0)))) (.Q (.block 1 (.Q (mn [gS 69 1 1,gA 70 69,jk 71 4,eT 72 (Cd 1 70 71),gA 73 72,rM 74 (Fc 111 [73]),eT 75 (PQ 74)] (pZ 75 (mn [eT 2 (tT (.B false))] (DL [2])))) (mn [eT 5 (tT (.I .i64 0))] (.block 2 (.L l_))))) (.ops [jk 67 4,eT 68 (r8 .add 67 1),jk 4 68])))
def cw:=jE.eq_1
def ma:KC:=.ds [1,6] (.Q (mn [jk 110 6,gS 111 2 1,gA 112 111,eT 113 (AQ 112),eT 114 (Gp .lss 110 113)] (.cond (.t 114) .skip (.ds [] (.exit 4)))) (.Q (.block 5 (mn [gS 117 2 1,gA 118 117,jk 119 6,eT 120 (Cd 3 118 119),rM 121 (sr 3 120),rM 122 (Fc 193 [121]),eT 123 (PQ 122)] (pZ 123 (mn [eT 2 (tT (.B false))] (DL [2]))))) (.ops [jk 115 6,eT 116 (r8 .add 115 1),jk 6 116])))
def dB:=ma.eq_1
def adM:aC 193=some ⟨124,mn [rM 1 (Y1 3 0),eT 2 (tT (.B false))] (.Q (mn l9 (.ds [1,47] (pZ 47 (mn [eT 2 (tT (.B false))] (DL [2]))))) (mn [eT 3 (tT (.I .i64 0))] (.Q (mn [gS 48 0 1,gA 49 48,eT 50 (r8 .eql 49 5)] (pZ 50 (.ops [gS 51 1 1,gA 52 51,eT 53 (AQ 52),jk 3 53]))) (.Q (mn [gS 54 0 1,gA 55 54,eT 56 (r8 .eql 55 6)] (pZ 56 (.ops [eT 3 (tT (.I .i64 1))]))) (.Q (mn [gS 57 2 1,gA 58 57,eT 59 (AQ 58),jk 60 3,eT 61 (Gp .neq 59 60)] (pZ 61 (mn [eT 2 (tT (.B false))] (DL [2])))) (.Q (mn [eT 4 (tT (.I .i64 0))] (.block 0 (.L jE))) (.Q (mn [eT 6 (tT (.I .i64 0))] (.block 4 (.L ma))) (mn [eT 2 (tT (.B true))] (DL [2]))))))))),[.tmp 2]⟩:=(li Tryz.func193 rfl).trans (by kernel_rfl)
def Zm:=(li Tryz.func202 rfl).trans (by cbv)
def Xo:=(by have h:=Zm;rewrite [<-cC.eq_1]at h;exact h:aC 202=_)
def adN:=(li Tryz.func203 rfl).trans (by cbv)
def adO:=(li Tryz.func204 rfl).trans (by cbv)
def adP:=(li Tryz.func205 rfl).trans (by cbv)
def Nt:=(li Tryz.func206 rfl).trans (by cbv)
def DT:List KO:=qM (aC 206) 5
def eR:=(by have h:=(jb Nt 5).trans (by cbv);exact h:DT=_)
def wY:KC:=nY (aC 206) 0
def ju:=(by have h:=(gF Nt 0).trans (by cbv);rewrite [<-eR]at h;exact h:wY=_)
def adQ:=(by have h:=Nt;rewrite [<-eR,<-ju]at h;exact h:aC 206=_)
def SE:=(li Tryz.func207 rfl).trans (by cbv)
def pF:KC:=nY (aC 207) 0
def c7:=(by have h:=(gF SE 0).trans (by cbv);rewrite [<-ah.eq_1]at h;exact h:pF=_)
def adR:=(by have h:=SE;rewrite [<-cC.eq_1,<-ah.eq_1,<-c7]at h;exact h:aC 207=_)
def adS:=(li Tryz.func208 rfl).trans (by cbv)
def adT:=(li Tryz.func209 rfl).trans (by cbv)
def adU:=(li Tryz.func210 rfl).trans (by cbv)
def Zn:=(li Tryz.func211 rfl).trans (by cbv)
def Xp:=(by have h:=Zn;rewrite [<-cC.eq_1,<-ah.eq_1]at h;exact h:aC 211=_)
def SF:=(li Tryz.func212 rfl).trans (by cbv)
def yI:KC:=nY (aC 212) 0
def lD:=(by have h:=(gF SF 0).trans (by cbv);rewrite [<-cC.eq_1,<-kI.eq_1,<-ah.eq_1]at h;exact h:yI=_)
def adV:=(by have h:=SF;rewrite [<-cC.eq_1,<-kI.eq_1,<-ah.eq_1,<-lD]at h;exact h:aC 212=_)
def Nu:=(li Tryz.func215 rfl).trans (by cbv)
def Cr:List KO:=qM (aC 215) 4
def iP:=(by have h:=(jb Nu 4).trans (by cbv);exact h:Cr=_)
def vh:KC:=nY (aC 215) 0
def gU:=(by have h:=(gF Nu 0).trans (by cbv);rewrite [<-iP]at h;exact h:vh=_)
def adW:=(by have h:=Nu;rewrite [<-iP,<-gU]at h;exact h:aC 215=_)
def SG:=(li Tryz.func216 rfl).trans (by cbv)
def vi:KC:=nY (aC 216) 0
def iQ:=(by have h:=(gF SG 0).trans (by cbv);exact h:vi=_)
def adX:=(by have h:=SG;rewrite [<-iQ]at h;exact h:aC 216=_)
def SH:=(li Tryz.func217 rfl).trans (by cbv)
def eK:KC:=nY (aC 217) 0
def cJ:=(by have h:=(gF SH 0).trans (by cbv);exact h:eK=_)
def adY:=(by have h:=SH;rewrite [<-cJ]at h;exact h:aC 217=_)
def SI:=(li Tryz.func218 rfl).trans (by cbv)
def fB:KC:=nY (aC 218) 0
def dN:=(by have h:=(gF SI 0).trans (by cbv);exact h:fB=_)
def adZ:=(by have h:=SI;rewrite [<-dN]at h;exact h:aC 218=_)
def Nv:=(li Tryz.func219 rfl).trans (by cbv)
def DU:List KO:=qM (aC 219) 1
def eS:=(by have h:=(jb Nv 1).trans (by cbv);exact h:DU=_)
def wZ:KC:=nY (aC 219) 0
def cX:=(by have h:=(gF Nv 0).trans (by cbv);rewrite [<-ah.eq_1]at h;exact h:wZ=_)
def ad0:=(by have h:=Nv;rewrite [<-ah.eq_1,<-eS,<-cX]at h;exact h:aC 219=_)
def SJ:=(li Tryz.func220 rfl).trans (by cbv)
def eV:KC:=nY (aC 220) 0
def cT:=(by have h:=(gF SJ 0).trans (by cbv);exact h:eV=_)
def ad1:=(by have h:=SJ;rewrite [<-cT]at h;exact h:aC 220=_)
def Nw:=(li Tryz.func221 rfl).trans (by cbv)
def Cs:List KO:=qM (aC 221) 7
def jS:=(by have h:=(jb Nw 7).trans (by cbv);exact h:Cs=_)
def Ct:List KO:=qM (aC 221) 9
def mb:=(by have h:=(jb Nw 9).trans (by cbv);exact h:Ct=_)
def ad2:=(by have h:=Nw;rewrite [<-jS,<-mb]at h;exact h:aC 221=_)
def ad3:=(li Tryz.func222 rfl).trans (by cbv)
def ad4:=(li Tryz.func223 rfl).trans (by cbv)
def ad5:=(li Tryz.func228 rfl).trans (by cbv)
def ad6:=(li Tryz.func229 rfl).trans (by cbv)
def ad7:=(li Tryz.func230 rfl).trans (by cbv)
def ad8:=(li Tryz.func231 rfl).trans (by cbv)
def ad9:=(li Tryz.func232 rfl).trans (by cbv)
def Nx:=(li Tryz.func233 rfl).trans (by cbv)
def w4:KC:=nY (aC 233) 0
def kJ:=(by have h:=(gF Nx 0).trans (by cbv);exact h:w4=_)
def w5:KC:=nY (aC 233) 1
def kK:=(by have h:=(gF Nx 1).trans (by cbv);exact h:w5=_)
def ad_:=(by have h:=Nx;rewrite [<-cC.eq_1,<-kJ,<-kK]at h;exact h:aC 233=_)
def aea:=(li Tryz.func234 rfl).trans (by cbv)
def aeb:=(li Tryz.func235 rfl).trans (by cbv)
def aec:=(li Tryz.func236 rfl).trans (by cbv)
def SK:=(li Tryz.func237 rfl).trans (by cbv)
def ug:KC:=nY (aC 237) 0
def iE:=(by have h:=(gF SK 0).trans (by cbv);exact h:ug=_)
def aed:=(by have h:=SK;rewrite [<-iE]at h;exact h:aC 237=_)
def aee:=(li Tryz.func238 rfl).trans (by cbv)
def SM:=(li Tryz.func239 rfl).trans (by cbv)
def ey:KC:=nY (aC 239) 0
def cA:=(by have h:=(gF SM 0).trans (by cbv);exact h:ey=_)
def aef:=(by have h:=SM;rewrite [<-cA]at h;exact h:aC 239=_)
def aeg:=(li Tryz.func240 rfl).trans (by cbv)
def aeh:=(li Tryz.func241 rfl).trans (by cbv)
def Zo:=(li Tryz.func242 rfl).trans (by cbv)
def aei:=(by have h:=Zo;rewrite [<-cC.eq_1]at h;exact h:aC 242=_)
def SN:=(li Tryz.func243 rfl).trans (by cbv)
def DV:List KO:=qM (aC 243) 2
def uh:=(by have h:=(jb SN 2).trans (by cbv);exact h:DV=_)
def aej:=(by have h:=SN;rewrite [<-uh]at h;exact h:aC 243=_)
def SO:=(li Tryz.func244 rfl).trans (by cbv)
def oU:KC:=nY (aC 244) 0
def eX:=(by have h:=(gF SO 0).trans (by cbv);exact h:oU=_)
def aek:=(by have h:=SO;rewrite [<-eX]at h;exact h:aC 244=_)
def SP:=(li Tryz.func245 rfl).trans (by cbv)
def oV:KC:=nY (aC 245) 0
def eY:=(by have h:=(gF SP 0).trans (by cbv);exact h:oV=_)
def ael:=(by have h:=SP;rewrite [<-eY]at h;exact h:aC 245=_)
def aem:=(li Tryz.func246 rfl).trans (by cbv)
def aen:=(li Tryz.func247 rfl).trans (by cbv)
def SQ:=(li Tryz.func248 rfl).trans (by cbv)
def jT:KC:=nY (aC 248) 0
def cQ:=(by have h:=(gF SQ 0).trans (by cbv);exact h:jT=_)
def aeo:=(by have h:=SQ;rewrite [<-cQ]at h;exact h:aC 248=_)
def aep:=(li Tryz.func249 rfl).trans (by cbv)
def SR:=(li Tryz.func250 rfl).trans (by cbv)
def fK:KC:=nY (aC 250) 0
def df:=(by have h:=(gF SR 0).trans (by cbv);exact h:fK=_)
def aeq:=(by have h:=SR;rewrite [<-df]at h;exact h:aC 250=_)
def SS:=(li Tryz.func251 rfl).trans (by cbv)
def zR:List KO:=qM (aC 251) 1
def ql:=(by have h:=(jb SS 1).trans (by cbv);exact h:zR=_)
def aer:=(by have h:=SS;rewrite [<-ql]at h;exact h:aC 251=_)
def aes:=(li Tryz.func252 rfl).trans (by cbv)
end
noncomputable section
@[simp low]def agO(f:Nat):qt f=O:=by rw[u6];simp[qt];try omega
@[simp low]def agP(f:Nat):U7 f=(bN (f=130)):=by rw[u6];simp[U7];try omega
end
end Go.Proofs.YtnhnmkgfgfmmhaaGreatDoor.am
