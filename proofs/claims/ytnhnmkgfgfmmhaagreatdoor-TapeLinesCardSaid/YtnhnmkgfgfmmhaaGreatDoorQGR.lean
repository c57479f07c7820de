/- Parts. No condition. -/
import Derived.KernelRfl
import Derived.Test.YtnhnmkgfgfmmhaaGreatDoorQGQ
set_option linter.all false
namespace Go.Proofs.YtnhnmkgfgfmmhaaGreatDoor.am
open Go
open Bool renaming false->O
open Decidable renaming decide->bN
noncomputable section
set_option maxRecDepth 100000
set_option maxHeartbeats 0
def XH:=(li Tryz.func114 rfl).trans (by cbv)
def aeQ:=(li Tryz.func115 rfl).trans (by cbv)
def adl:=(li Tryz.func116 rfl).trans (by cbv)
def S6:=(li Tryz.func120 rfl).trans (by cbv)
def oR:KC:=nY (aC 120) 0
def gq:=(by have h:=(gF S6 0).trans (by cbv);exact h:oR=_)
def ac9:=(by have h:=S6;rewrite [<-gq]at h;exact h:aC 120=_)
def S7:=(li Tryz.func121 rfl).trans (by cbv)
def oS:KC:=nY (aC 121) 0
def gr:=(by have h:=(gF S7 0).trans (by cbv);exact h:oS=_)
def ac_:=(by have h:=S7;rewrite [<-gr]at h;exact h:aC 121=_)
def S8:=(li Tryz.func122 rfl).trans (by cbv)
def lB:KC:=nY (aC 122) 0
def d_:=(by have h:=(gF S8 0).trans (by cbv);rewrite [<-ah.eq_1]at h;exact h:lB=_)
def ada:=(by have h:=S8;rewrite [<-ah.eq_1,<-d_]at h;exact h:aC 122=_)
def S9:=(li Tryz.func123 rfl).trans (by cbv)
def kZ:KC:=nY (aC 123) 0
def dR:=(by have h:=(gF S9 0).trans (by cbv);exact h:kZ=_)
def adb:=(by have h:=S9;rewrite [<-dR]at h;exact h:aC 123=_)
def aeR:=(li Tryz.func126 rfl).trans (by cbv)
def NA:=(li Tryz.func129 rfl).trans (by cbv)
def Cu:List KO:=qM (aC 129) 4
def oM:=(by have h:=(jb NA 4).trans (by cbv);exact h:Cu=_)
def vj:KC:=nY (aC 129) 0
def jU:=(by have h:=(gF NA 0).trans (by cbv);rewrite [<-oM]at h;exact h:vj=_)
def aeS:=(by have h:=NA;rewrite [<-oM,<-jU]at h;exact h:aC 129=_)
def aeT:=(li Tryz.func130 rfl).trans (by cbv)
def Zp:=(li Tryz.func131 rfl).trans (by cbv)
def aeU:=(by have h:=Zp;rewrite [<-cC.eq_1,<-ag.eq_1]at h;exact h:aC 131=_)
def S_:=(li Tryz.func132 rfl).trans (by cbv)
def zS:List KD:=dwK (aC 132) 0
def j9:=(by have h:=(Y4 S_ 0).trans (by cbv);exact h:zS=_)
def aeV:=(by have h:=S_;rewrite [<-j9]at h;exact h:aC 132=_)
def Zq:=(li Tryz.func133 rfl).trans (by cbv)
def aeW:=(by have h:=Zq;rewrite [<-ab.eq_1]at h;exact h:aC 133=_)
def NB:=(li Tryz.func135 rfl).trans (by cbv)
def mV:KC:=nY (aC 135) 0
def fS:=(by have h:=(gF NB 0).trans (by cbv);exact h:mV=_)
def qh:KC:=nY (aC 135) 1
def ia:=(by have h:=(gF NB 1).trans (by cbv);exact h:qh=_)
def adg:=(by have h:=NB;rewrite [<-fS,<-ia]at h;exact h:aC 135=_)
def aeX:=(li Tryz.func141 rfl).trans (by cbv)
def aeY:=(li Tryz.func142 rfl).trans (by cbv)
def aeZ:=(li Tryz.func143 rfl).trans (by cbv)
def Ta:=(li Tryz.func144 rfl).trans (by cbv)
def DX:List KO:=qM (aC 144) 1
def nv:=(by have h:=(jb Ta 1).trans (by cbv);exact h:DX=_)
def XI:=(by have h:=Ta;rewrite [<-nv]at h;exact h:aC 144=_)
def ae0:=(li Tryz.func145 rfl).trans (by cbv)
def ae1:=(li Tryz.func146 rfl).trans (by cbv)
def ae2:=(li Tryz.func147 rfl).trans (by cbv)
def Tb:=(li Tryz.func148 rfl).trans (by cbv)
def GI:List KO:=qM (aC 148) 1
def bV:=(by have h:=(jb Tb 1).trans (by cbv);rewrite [<-ah.eq_1]at h;exact h:GI=_)
def Lr:=(by have h:=Tb;rewrite [<-ah.eq_1,<-bV]at h;exact h:aC 148=_)
def Tc:=(li Tryz.func149 rfl).trans (by cbv)
def Fu:List KO:=qM (aC 149) 1
def ve:=(by have h:=(jb Tc 1).trans (by cbv);exact h:Fu=_)
def adi:=(by have h:=Tc;rewrite [<-ve]at h;exact h:aC 149=_)
def Td:=(li Tryz.func150 rfl).trans (by cbv)
def DY:List KO:=qM (aC 150) 1
def nq:=(by have h:=(jb Td 1).trans (by cbv);exact h:DY=_)
def adk:=(by have h:=Td;rewrite [<-nq]at h;exact h:aC 150=_)
def ae3:=(li Tryz.func151 rfl).trans (by cbv)
def Te:=(li Tryz.func152 rfl).trans (by cbv)
def vk:KC:=nY (aC 152) 0
def dt:=(by have h:=(gF Te 0).trans (by cbv);exact h:vk=_)
def ae4:=(by have h:=Te;rewrite [<-dt]at h;exact h:aC 152=_)
def ae5:=(li Tryz.func153 rfl).trans (by cbv)
def ae6:=(li Tryz.func155 rfl).trans (by cbv)
def qn:List KD:=[dS (gS 48 3 2) 0 0,dS (gA 49 48) 0 0,dS (jk 50 6) 0 0,dS (eT 51 (Cd 1 49 50)) 0 0,dS (gA 52 51) 0 0,dS (gS 53 1 3) 0 0,dS (gA 54 53) 0 0,dS (jk 55 6) 0 0,dS (eT 56 (Cd 1 54 55)) 0 0,dS (gA 57 56) 0 0,dS (eT 58 (.Gu .neq (.t 52) (.t 57))) 0 0,dS (jk 59 58) 0 0,dS (lq 60 59 (tC 5 2)) 0 0,dS (xe 61 59 (uX 60)) 0 0,dS (DJ 62 59 6) 0 0,dS (lq 63 59 (Cd 6 61 62)) 0 0,dS (xe 64 59 (sr 6 63)) 0 0,dS (lq 65 59 (tC 2 3)) 0 0,dS (xe 66 59 (uX 65)) 0 0,dS (DJ 67 59 6) 0 0,dS (lq 68 59 (Cd 3 66 67)) 0 0,dS (xe 69 59 (sr 3 68)) 0 0,IC (xe 70 59 (Fc 156 [64,69])) 0 1,dS (lq 71 59 (PQ 70)) 1 1,dS (eT 72 (DK 59 71)) 1 1]
def lG:=qn.eq_1
def j_:KC:=.ds [2,3,5] (.Q (mn [jk 16 5,gS 17 1 3,gA 18 17,eT 19 (AQ 18),eT 20 (Gp .lss 16 19)] (.cond (.t 20) .skip (.ds [] (.exit 0)))) (.Q (.block 1 (.Q (.draw [] [dS (gS 23 1 3) 0 0,dS (gA 24 23) 0 0,dS (jk 25 5) 0 0,dS (eT 26 (Cd 1 24 25)) 0 0,dS (gA 27 26) 0 0,dS (gS 28 2 2) 0 0,dS (gA 29 28) 0 0,dS (eT 30 (.Gu .eql (.t 27) (.t 29))) 0 0]) (pZ 30 (mn [eT 4 (tT (.B true))] (DL [4]))))) (.ops [jk 21 5,eT 22 (r8 .add 21 1),jk 5 22])))
def ic:=j_.eq_1
def mY:KC:=.ds [2,3,6] (.Q (mn [jk 41 6,gS 42 3 2,gA 43 42,eT 44 (AQ 43),eT 45 (Gp .lss 41 44)] (.cond (.t 45) .skip (.ds [2,3] (.exit 2)))) (.Q (.block 3 (.Q (.draw [] qn) (.ds [2,3,6,72] (pZ 72 (mn [eT 4 (tT (.B false))] (DL [4])))))) (.ops [jk 46 6,eT 47 (r8 .add 46 1),jk 6 47])))
def ie:=mY.eq_1
def mZ:KC:=.ds [2,3,7] (.Q (mn [jk 76 7,gS 77 5 2,gA 78 77,eT 79 (AQ 78),eT 80 (Gp .lss 76 79)] (.cond (.t 80) .skip (.ds [] (.exit 4)))) (.Q (.block 5 (.Q (.draw [] [dS (gS 83 5 2) 0 0,dS (gA 84 83) 0 0,dS (jk 85 7) 0 0,dS (eT 86 (Cd 6 84 85)) 0 0,dS (rM 87 (sr 6 86)) 0 0,dS (gS 88 2 3) 0 0,dS (gA 89 88) 0 0,dS (eT 90 (.ixL 3 (.t 89) (q_i 0))) 0 0,dS (rM 91 (sr 3 90)) 0 0,IC (rM 92 (Fc 156 [87,91])) 0 1,dS (eT 93 (PQ 92)) 1 1]) (pZ 93 (mn [eT 4 (tT (.B false))] (DL [4]))))) (.ops [jk 81 7,eT 82 (r8 .add 81 1),jk 7 82])))
def ij:=mZ.eq_1
def ae7:aC 156=some ⟨94,mn [rM 2 (Y1 6 0),rM 3 (Y1 3 1),eT 4 (tT (.B false))] (.Q (mn [gS 8 0 2,gA 9 8,gS 10 0 3,gA 11 10,eT 12 (Gp .neq 9 11)] (pZ 12 (mn [eT 4 (tT (.B false))] (DL [4])))) (.Q (mn [gS 13 0 2,gA 14 13,eT 15 (r8 .eql 14 4)] (pZ 15 (.Q (mn [eT 5 (tT (.I .i64 0))] (.block 0 (.L j_))) (mn [eT 4 (tT (.B false))] (DL [4]))))) (.Q (mn [gS 31 0 2,gA 32 31,eT 33 (r8 .eql 32 5)] (pZ 33 (.Q (mn [gS 34 3 2,gA 35 34,eT 36 (AQ 35),gS 37 1 3,gA 38 37,eT 39 (AQ 38),eT 40 (Gp .neq 36 39)] (pZ 40 (mn [eT 4 (tT (.B false))] (DL [4])))) (mn [eT 6 (tT (.I .i64 0))] (.block 2 (.L mY)))))) (.Q (mn [gS 73 0 2,gA 74 73,eT 75 (r8 .eql 74 6)] (pZ 75 (mn [eT 7 (tT (.I .i64 0))] (.block 4 (.L mZ))))) (mn [eT 4 (tT (.B true))] (DL [4])))))),[.tmp 4]⟩:=(li Tryz.func156 rfl).trans (by kernel_rfl)
def Ja:=(li Tryz.func160 rfl).trans (by cbv)
def qE:List KO:=qM (aC 160) 21
def kF:=(by have h:=(jb Ja 21).trans (by cbv);exact h:qE=_)
def qF:List KO:=qM (aC 160) 30
def kG:=(by have h:=(jb Ja 30).trans (by cbv);exact h:qF=_)
def qG:KC:=nY (aC 160) 0
def pC:=(by have h:=(gF Ja 0).trans (by cbv);rewrite [<-kF,<-kG]at h;exact h:qG=_)
def adt:=(by have h:=Ja;rewrite [<-kF,<-kG,<-pC]at h;exact h:aC 160=_)
def adu:=(li Tryz.func166 rfl).trans (by cbv)
def adv:=(li Tryz.func167 rfl).trans (by cbv)
def Sv:=(li Tryz.func168 rfl).trans (by cbv)
def yH:List KO:=qM (aC 168) 0
def l7:=(by have h:=(jb Sv 0).trans (by cbv);rewrite [<-cC.eq_1]at h;exact h:yH=_)
def adw:=(by have h:=Sv;rewrite [<-cC.eq_1,<-l7]at h;exact h:aC 168=_)
def Sw:=(li Tryz.func169 rfl).trans (by cbv)
def Aj:KC:=nY (aC 169) 0
def mC:=(by have h:=(gF Sw 0).trans (by cbv);rewrite [<-cC.eq_1]at h;exact h:Aj=_)
def adx:=(by have h:=Sw;rewrite [<-cC.eq_1,<-mC]at h;exact h:aC 169=_)
def ady:=(li Tryz.func170 rfl).trans (by cbv)
def Zl:=(li Tryz.func171 rfl).trans (by cbv)
def adz:=(by have h:=Zl;rewrite [<-ah.eq_1]at h;exact h:aC 171=_)
def adA:=(li Tryz.func172 rfl).trans (by cbv)
def Sx:=(li Tryz.func173 rfl).trans (by cbv)
def DR:KC:=nY (aC 173) 0
def kH:=(by have h:=(gF Sx 0).trans (by cbv);rewrite [<-cC.eq_1]at h;exact h:DR=_)
def adB:=(by have h:=Sx;rewrite [<-cC.eq_1,<-kH]at h;exact h:aC 173=_)
def Sy:=(li Tryz.func174 rfl).trans (by cbv)
def GG:List KO:=qM (aC 174) 15
def km:=(by have h:=(jb Sy 15).trans (by cbv);rewrite [<-cC.eq_1]at h;exact h:GG=_)
def Lt:=(by have h:=Sy;rewrite [<-ab.eq_1,<-cC.eq_1,<-km]at h;exact h:aC 174=_)
def Sz:=(li Tryz.func180 rfl).trans (by cbv)
def eU:KC:=nY (aC 180) 0
def cS:=(by have h:=(gF Sz 0).trans (by cbv);exact h:eU=_)
def adC:=(by have h:=Sz;rewrite [<-cS]at h;exact h:aC 180=_)
def AG:=(li Tryz.func181 rfl).trans (by cbv)
def wS:List KO:=qM (aC 181) 1
def t_:=(by have h:=(jb AG 1).trans (by cbv);exact h:wS=_)
def wT:List KO:=qM (aC 181) 4
def ua:=(by have h:=(jb AG 4).trans (by cbv);exact h:wT=_)
def wU:List KO:=qM (aC 181) 8
def ub:=(by have h:=(jb AG 8).trans (by cbv);exact h:wU=_)
def wV:List KO:=qM (aC 181) 10
def uc:=(by have h:=(jb AG 10).trans (by cbv);exact h:wV=_)
def wW:List KO:=qM (aC 181) 12
def ud:=(by have h:=(jb AG 12).trans (by cbv);exact h:wW=_)
def wX:List KO:=qM (aC 181) 14
def ue:=(by have h:=(jb AG 14).trans (by cbv);exact h:wX=_)
def adD:=(by have h:=AG;rewrite [<-t_,<-ua,<-ub,<-uc,<-ud,<-ue]at h;exact h:aC 181=_)
def adE:=(li Tryz.func182 rfl).trans (by cbv)
def adF:=(li Tryz.func183 rfl).trans (by cbv)
def adG:=(li Tryz.func184 rfl).trans (by cbv)
def SA:=(li Tryz.func185 rfl).trans (by cbv)
def Cp:List KO:=qM (aC 185) 1
def tn:=(by have h:=(jb SA 1).trans (by cbv);exact h:Cp=_)
def adH:=(by have h:=SA;rewrite [<-tn]at h;exact h:aC 185=_)
def adI:=(li Tryz.func186 rfl).trans (by cbv)
def adJ:=(li Tryz.func187 rfl).trans (by cbv)
def adh:=(li Tryz.func188 rfl).trans (by cbv)
def adK:=(li Tryz.func189 rfl).trans (by cbv)
end
end Go.Proofs.YtnhnmkgfgfmmhaaGreatDoor.am
