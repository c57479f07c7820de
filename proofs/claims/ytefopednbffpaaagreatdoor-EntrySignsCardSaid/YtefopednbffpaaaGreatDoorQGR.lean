/- Parts. No condition. -/
import Derived.KernelRfl
import Derived.Test.YtefopednbffpaaaGreatDoorQGQ
set_option linter.all false
namespace Go.Proofs.YtefopednbffpaaaGreatDoor.am
open Go
open Decidable renaming decide->ck
open Go.Proofs.YtefopednbffpaaaGreatDoor.am renaming bn->H
noncomputable section
set_option maxRecDepth 100000
set_option maxHeartbeats 0
def aiQ:=(li Tryz.func159 rfl).trans (by cbv)
def NX:List KO:=xF (ay 159) 1
def vj:=(by have h:=(m7 aiQ 1).trans (by cbv);exact h:NX=_)
def axY:=(by have h:=aiQ;rewrite [<-vj]at h;exact h:ay 159=_)
def aiR:=(li Tryz.func160 rfl).trans (by cbv)
def qw:KC:=ku (ay 160) 0
def gw:=(by have h:=(dK aiR 0).trans (by cbv);rewrite [<-pk.eq_1]at h;exact h:qw=_)
def axV:=(by have h:=aiR;rewrite [<-pk.eq_1,<-gw]at h;exact h:ay 160=_)
def axZ:=(li Tryz.func161 rfl).trans (by cbv)
def aiS:=(li Tryz.func162 rfl).trans (by cbv)
def qx:KC:=ku (ay 162) 0
def gA:=(by have h:=(dK aiS 0).trans (by cbv);rewrite [<-aE.eq_1]at h;exact h:qx=_)
def axW:=(by have h:=aiS;rewrite [<-aE.eq_1,<-gA]at h;exact h:ay 162=_)
def abl:=(li Tryz.func163 rfl).trans (by cbv)
def Qy:List KO:=xF (ay 163) 2
def gQ:=(by have h:=(m7 abl 2).trans (by cbv);exact h:Qy=_)
def Qz:List KO:=xF (ay 163) 11
def xq:=(by have h:=(m7 abl 11).trans (by cbv);exact h:Qz=_)
def ap8:=(by have h:=abl;rewrite [<-gQ,<-xq]at h;exact h:ay 163=_)
def aiT:=(li Tryz.func164 rfl).trans (by cbv)
def sY:KC:=ku (ay 164) 0
def iQ:=(by have h:=(dK aiT 0).trans (by cbv);exact h:sY=_)
def axQ:=(by have h:=aiT;rewrite [<-iQ]at h;exact h:ay 164=_)
def atg:=(li Tryz.func166 rfl).trans (by cbv)
def azQ:=(by have h:=atg;rewrite [<-cS.eq_1]at h;exact h:ay 166=_)
def ath:=(li Tryz.func167 rfl).trans (by cbv)
def azR:=(by have h:=ath;rewrite [<-iK.eq_1]at h;exact h:ay 167=_)
def vI:KC:=.dU [1,2,3,6,7,18] (mv [cG 19 (rS .lss 18 80)] (.Q (.cond (.t 19) .skip (.dU [2,3,6,7] (.exit 0))) (.Q (.block 1 (mv [eG 20 18,eG 8 20] (.Q (mv [eG 21 8,cG 22 (rS .lss 21 16)] (uZ 22 (mv [eG 23 8,eG 24 1,eG 25 8,cG 26 (.RI .mul (zL 8) (.t 25)),eG 27 8,cG 28 (.RI .mul (zL 8) (.t 27)),cG 29 (rS .add 28 8),cG 30 (.slL 1 (.t 24) (some (.t 26)) (some (.t 29))),ee 31 (qX 236 [30]),cG 32 (.JV 80 1 (.t 7) (.t 23)),HK (HM 1 32 31)] (.exit 1)))) (.Q (.draw [] [H (eG 33 8) 0 0,H (cG 34 (rS .sub 33 15)) 0 0,H (cG 35 (.JV 80 1 (.t 7) (.t 34))) 0 0,H (dF 36 35) 0 0,H (eG 37 8) 0 0,H (cG 38 (rS .sub 37 2)) 0 0,H (cG 39 (.JV 80 1 (.t 7) (.t 38))) 0 0,H (dF 40 39) 0 0,H (eG 9 36) 0 0,H (eG 10 40) 0 0]) (.draw [] [H (eG 41 8) 0 4,H (eG 42 8) 0 4,H (cG 43 (rS .sub 42 16)) 0 4,H (cG 44 (.JV 80 1 (.t 7) (.t 43))) 0 4,H (dF 45 44) 0 4,H (eG 46 9) 0 0,m0 (ee 47 (q_h 237 [.t 46,zL 1])) 0 1,H (eG 48 9) 0 1,m0 (ee 49 (q_h 237 [.t 48,zL 8])) 1 2,H (cG 50 (qB .xor 47 49)) 2 4,H (eG 51 9) 0 4,H (cG 52 (.RI .shr (.t 51) (.c (.I .u64 7)))) 0 4,H (cG 53 (qB .xor 50 52)) 2 4,H (cG 54 (qB .add 45 53)) 2 4,H (eG 55 8) 0 4,H (cG 56 (rS .sub 55 7)) 0 4,H (cG 57 (.JV 80 1 (.t 7) (.t 56))) 0 4,H (dF 58 57) 0 4,H (cG 59 (qB .add 54 58)) 2 4,H (eG 60 10) 0 2,m0 (ee 61 (q_h 237 [.t 60,zL 19])) 2 3,H (eG 62 10) 0 3,m0 (ee 63 (q_h 237 [.t 62,zL 61])) 3 4,H (cG 64 (qB .xor 61 63)) 4 4,H (eG 65 10) 0 4,H (cG 66 (.RI .shr (.t 65) (.c (.I .u64 6)))) 0 4,H (cG 67 (qB .xor 64 66)) 4 4,H (cG 68 (qB .add 59 67)) 4 4,H (cG 69 (.JV 80 1 (.t 7) (.t 41))) 4 4,m0 (HK (HM 1 69 68)) 4 5]))))) (.ops [cG 70 (rS .add 18 1),eG 18 70]))))
def mf:=vI.eq_1
def vJ:KC:=.dU [2,3,6,7,11,72] (mv [cG 73 (rS .lss 72 80)] (.Q (.cond (.t 73) .skip (.dU [3,6,11] (.exit 2))) (.Q (.block 3 (mv [eG 74 72,eG 12 74] (.Q (.draw [] [H (cG 75 (.JV 8 1 (.t 11) (zL 0))) 0 0,H (dF 76 75) 0 0,H (cG 77 (.JV 8 1 (.t 11) (zL 4))) 0 0,H (dF 78 77) 0 0,H (eG 13 76) 0 0,H (eG 14 78) 0 0]) (.Q (.draw [] [H (cG 79 (.JV 8 1 (.t 11) (zL 7))) 0 3,H (dF 80 79) 0 3,H (eG 81 14) 0 0,m0 (ee 82 (q_h 237 [.t 81,zL 14])) 0 1,H (eG 83 14) 0 1,m0 (ee 84 (q_h 237 [.t 83,zL 18])) 1 2,H (cG 85 (qB .xor 82 84)) 2 3,H (eG 86 14) 0 2,m0 (ee 87 (q_h 237 [.t 86,zL 41])) 2 3,H (cG 88 (qB .xor 85 87)) 3 3,H (cG 89 (qB .add 80 88)) 3 3,H (eG 90 14) 0 3,H (cG 91 (.JV 8 1 (.t 11) (zL 5))) 0 3,H (dF 92 91) 0 3,H (cG 93 (qB .and 90 92)) 0 3,H (eG 94 14) 0 3,H (cG 95 (.un .xor (.t 94))) 0 3,H (cG 96 (.JV 8 1 (.t 11) (zL 6))) 0 3,H (dF 97 96) 0 3,H (cG 98 (qB .and 95 97)) 0 3,H (cG 99 (qB .xor 93 98)) 0 3,H (cG 100 (qB .add 89 99)) 3 3,H (eG 101 2) 0 3,H (eG 102 12) 0 3,H (cG 103 (q_N 101)) 0 3,H (cG 104 (.JV 80 1 (.t 103) (.t 102))) 0 3,H (dF 105 104) 0 3,H (cG 106 (qB .add 100 105)) 3 3,H (eG 107 12) 0 3,H (cG 108 (.JV 80 1 (.t 7) (.t 107))) 0 3,H (dF 109 108) 0 3,H (cG 110 (qB .add 106 109)) 3 3,H (eG 15 110) 3 3]) (.Q (.draw [] [H (eG 111 13) 0 0,m0 (ee 112 (q_h 237 [.t 111,zL 28])) 0 1,H (eG 113 13) 0 1,m0 (ee 114 (q_h 237 [.t 113,zL 34])) 1 2,H (cG 115 (qB .xor 112 114)) 2 3,H (eG 116 13) 0 2,m0 (ee 117 (q_h 237 [.t 116,zL 39])) 2 3,H (cG 118 (qB .xor 115 117)) 3 3,H (eG 119 13) 0 3,H (cG 120 (.JV 8 1 (.t 11) (zL 1))) 0 3,H (dF 121 120) 0 3,H (cG 122 (qB .and 119 121)) 0 3,H (eG 123 13) 0 3,H (cG 124 (.JV 8 1 (.t 11) (zL 2))) 0 3,H (dF 125 124) 0 3,H (cG 126 (qB .and 123 125)) 0 3,H (cG 127 (qB .xor 122 126)) 0 3,H (cG 128 (.JV 8 1 (.t 11) (zL 1))) 0 3,H (dF 129 128) 0 3,H (cG 130 (.JV 8 1 (.t 11) (zL 2))) 0 3,H (dF 131 130) 0 3,H (cG 132 (qB .and 129 131)) 0 3,H (cG 133 (qB .xor 127 132)) 0 3,H (cG 134 (qB .add 118 133)) 3 3,H (eG 16 134) 3 3]) (.ops [eG 135 15,eG 136 16,cG 137 (qB .add 135 136),cG 138 (.JV 8 1 (.t 11) (zL 0)),dF 139 138,cG 140 (.JV 8 1 (.t 11) (zL 1)),dF 141 140,cG 142 (.JV 8 1 (.t 11) (zL 2)),dF 143 142,cG 144 (.JV 8 1 (.t 11) (zL 3)),dF 145 144,eG 146 15,cG 147 (qB .add 145 146),cG 148 (.JV 8 1 (.t 11) (zL 4)),dF 149 148,cG 150 (.JV 8 1 (.t 11) (zL 5)),dF 151 150,cG 152 (.JV 8 1 (.t 11) (zL 6)),dF 153 152,cG 154 (.bld cS [(0,1,.t 137),(1,1,.t 139),(2,1,.t 141),(3,1,.t 143),(4,1,.t 147),(5,1,.t 149),(6,1,.t 151),(7,1,.t 153)]),HK (HM 8 11 154)])))))) (.ops [cG 155 (rS .add 72 1),eG 72 155]))))
def pV:=vJ.eq_1
def vK:KC:=.dU [3,6,11,156] (mv [cG 157 (rS .lss 156 8)] (.Q (.cond (.t 157) .skip (.dU [3,6] (.exit 4))) (.Q (.block 5 (mv [eG 158 156,eG 17 158] (.draw [] [H (eG 159 17) 0 0,H (cG 160 (.JV 8 1 (.t 3) (.t 159))) 0 0,H (dF 161 160) 0 0,H (eG 162 17) 0 0,H (cG 163 (.JV 8 1 (.t 11) (.t 162))) 0 0,H (dF 164 163) 0 0,H (cG 165 (qB .add 161 164)) 0 0,H (cG 166 (.JV 8 1 (.t 3) (.t 159))) 0 0,m0 (HK (HM 1 166 165)) 0 1]))) (.ops [cG 167 (rS .add 156 1),eG 156 167]))))
def pW:=vK.eq_1
def azS:ay 168=some ⟨169,mv [ee 3 (q_b 8 0),ee 6 (.alloc cS)] (mv [ee 7 (.alloc iK)] (.Q (mv [cG 18 (wZ (.I .i64 0))] (.block 0 (.L vI))) (mv [ee 71 (dZ 8 3),ee 11 (.alloc cS),HK (HM 8 11 71)] (.Q (mv [cG 72 (wZ (.I .i64 0))] (.block 2 (.L vJ))) (.Q (mv [cG 156 (wZ (.I .i64 0))] (.block 4 (.L vK))) (mv [ee 168 (dZ 8 3),HK (HM 8 6 168)] (Jz [6]))))))),[.C 6 (.A 8)]⟩:=(li Tryz.func168 rfl).trans (by kernel_rfl)
def aiU:=(li Tryz.func169 rfl).trans (by cbv)
def G1:KC:=ku (ay 169) 0
def qe:=(by have h:=(dK aiU 0).trans (by cbv);exact h:G1=_)
def azT:=(by have h:=aiU;rewrite [<-qe]at h;exact h:ay 169=_)
def aiV:=(li Tryz.func170 rfl).trans (by cbv)
def GI:KC:=ku (ay 170) 0
def oi:=(by have h:=(dK aiV 0).trans (by cbv);exact h:GI=_)
def ayB:=(by have h:=aiV;rewrite [<-oi]at h;exact h:ay 170=_)
def ati:=(li Tryz.func171 rfl).trans (by cbv)
def ayD:=(by have h:=ati;rewrite [<-gY.eq_1]at h;exact h:ay 171=_)
def aiW:=(li Tryz.func172 rfl).trans (by cbv)
def yz:KC:=ku (ay 172) 0
def jq:=(by have h:=(dK aiW 0).trans (by cbv);exact h:yz=_)
def ayA:=(by have h:=aiW;rewrite [<-gY.eq_1,<-jq]at h;exact h:ay 172=_)
def ayx:=(li Tryz.func173 rfl).trans (by cbv)
def ax_:=(li Tryz.func174 rfl).trans (by cbv)
def ax8:=(li Tryz.func176 rfl).trans (by cbv)
def abm:=(li Tryz.func177 rfl).trans (by cbv)
def yr:KC:=ku (ay 177) 0
def lD:=(by have h:=(dK abm 0).trans (by cbv);exact h:yr=_)
def yu:KC:=ku (ay 177) 1
def lE:=(by have h:=(dK abm 1).trans (by cbv);exact h:yu=_)
def ayf:=(by have h:=abm;rewrite [<-gY.eq_1,<-lD,<-lE]at h;exact h:ay 177=_)
def abn:=(li Tryz.func178 rfl).trans (by cbv)
def yn:KC:=ku (ay 178) 0
def ly:=(by have h:=(dK abn 0).trans (by cbv);exact h:yn=_)
def yo:KC:=ku (ay 178) 1
def lC:=(by have h:=(dK abn 1).trans (by cbv);exact h:yo=_)
def ayc:=(by have h:=abn;rewrite [<-gY.eq_1,<-ly,<-lC]at h;exact h:ay 178=_)
def aiX:=(li Tryz.func179 rfl).trans (by cbv)
def zA:KC:=ku (ay 179) 0
def eU:=(by have h:=(dK aiX 0).trans (by cbv);rewrite [<-ah.eq_1]at h;exact h:zA=_)
def azU:=(by have h:=aiX;rewrite [<-ah.eq_1,<-eU]at h;exact h:ay 179=_)
def aiY:=(li Tryz.func180 rfl).trans (by cbv)
def G2:KC:=ku (ay 180) 0
def mG:=(by have h:=(dK aiY 0).trans (by cbv);exact h:G2=_)
def azV:=(by have h:=aiY;rewrite [<-mG]at h;exact h:ay 180=_)
def azW:=(li Tryz.func181 rfl).trans (by cbv)
def azX:=(li Tryz.func182 rfl).trans (by cbv)
def aiZ:=(li Tryz.func183 rfl).trans (by cbv)
def EX:KC:=ku (ay 183) 0
def po:=(by have h:=(dK aiZ 0).trans (by cbv);rewrite [<-ah.eq_1]at h;exact h:EX=_)
def azY:=(by have h:=aiZ;rewrite [<-ah.eq_1,<-po]at h;exact h:ay 183=_)
def ai0:=(li Tryz.func184 rfl).trans (by cbv)
def G3:KC:=ku (ay 184) 0
def qf:=(by have h:=(dK ai0 0).trans (by cbv);exact h:G3=_)
def azZ:=(by have h:=ai0;rewrite [<-qf]at h;exact h:ay 184=_)
def az0:=(li Tryz.func185 rfl).trans (by cbv)
def ai1:=(li Tryz.func186 rfl).trans (by cbv)
def kQ:KC:=ku (ay 186) 0
def jy:=(by have h:=(dK ai1 0).trans (by cbv);exact h:kQ=_)
def az1:=(by have h:=ai1;rewrite [<-jy]at h;exact h:ay 186=_)
def ai2:=(li Tryz.func187 rfl).trans (by cbv)
def lV:KC:=ku (ay 187) 0
def jY:=(by have h:=(dK ai2 0).trans (by cbv);exact h:lV=_)
def az2:=(by have h:=ai2;rewrite [<-jY]at h;exact h:ay 187=_)
def az3:=(li Tryz.func188 rfl).trans (by cbv)
def abo:=(li Tryz.func189 rfl).trans (by cbv)
def NY:List KO:=xF (ay 189) 5
def gV:=(by have h:=(m7 abo 5).trans (by cbv);exact h:NY=_)
def EY:KC:=ku (ay 189) 0
def nI:=(by have h:=(dK abo 0).trans (by cbv);rewrite [<-gV]at h;exact h:EY=_)
def az4:=(by have h:=abo;rewrite [<-gV,<-nI]at h;exact h:ay 189=_)
def az5:=(li Tryz.func190 rfl).trans (by cbv)
def ai3:=(li Tryz.func191 rfl).trans (by cbv)
def vM:KC:=ku (ay 191) 0
def eJ:=(by have h:=(dK ai3 0).trans (by cbv);rewrite [<-ah.eq_1]at h;exact h:vM=_)
def az6:=(by have h:=ai3;rewrite [<-fV.eq_1,<-ah.eq_1,<-eJ]at h;exact h:ay 191=_)
def az7:=(li Tryz.func192 rfl).trans (by cbv)
def az8:=(li Tryz.func193 rfl).trans (by cbv)
def az9:=(li Tryz.func194 rfl).trans (by cbv)
def az_:=(li Tryz.func195 rfl).trans (by cbv)
def aAa:=(li Tryz.func196 rfl).trans (by cbv)
def atj:=(li Tryz.func197 rfl).trans (by cbv)
def aqc:=(by have h:=atj;rewrite [<-fV.eq_1,<-ah.eq_1]at h;exact h:ay 197=_)
def ai4:=(li Tryz.func198 rfl).trans (by cbv)
def G4:KC:=ku (ay 198) 0
def qg:=(by have h:=(dK ai4 0).trans (by cbv);rewrite [<-fV.eq_1,<-pk.eq_1,<-ah.eq_1]at h;exact h:G4=_)
def aAb:=(by have h:=ai4;rewrite [<-fV.eq_1,<-pk.eq_1,<-ah.eq_1,<-qg]at h;exact h:ay 198=_)
def aAc:=(li Tryz.func199 rfl).trans (by cbv)
def wP:List KD:=[H (eN 48 3 2) 0 0,H (dF 49 48) 0 0,H (eG 50 6) 0 0,H (cG 51 (FK 1 49 50)) 0 0,H (dF 52 51) 0 0,H (eN 53 1 3) 0 0,H (dF 54 53) 0 0,H (eG 55 6) 0 0,H (cG 56 (FK 1 54 55)) 0 0,H (dF 57 56) 0 0,H (cG 58 (.RJ .neq (.t 52) (.t 57))) 0 0,H (eG 59 58) 0 0,H (p6 60 59 (Bg 5 2)) 0 0,H (Fm 61 59 (CH 60)) 0 0,H (NJ 62 59 6) 0 0,H (p6 63 59 (FK 6 61 62)) 0 0,H (Fm 64 59 (dZ 6 63)) 0 0,H (p6 65 59 (Bg 2 3)) 0 0,H (Fm 66 59 (CH 65)) 0 0,H (NJ 67 59 6) 0 0,H (p6 68 59 (FK 3 66 67)) 0 0,H (Fm 69 59 (dZ 3 68)) 0 0,m0 (Fm 70 59 (qX 200 [64,69])) 0 1,H (p6 71 59 (q_U 70)) 1 1,H (cG 72 (NL 59 71)) 1 1]
def qh:=wP.eq_1
def oF:KC:=.dU [2,3,5] (.Q (mv [eG 16 5,eN 17 1 3,dF 18 17,cG 19 (ID 18),cG 20 (qB .lss 16 19)] (.cond (.t 20) .skip (.dU [] (.exit 0)))) (.Q (.block 1 (.Q (.draw [] [H (eN 23 1 3) 0 0,H (dF 24 23) 0 0,H (eG 25 5) 0 0,H (cG 26 (FK 1 24 25)) 0 0,H (dF 27 26) 0 0,H (eN 28 2 2) 0 0,H (dF 29 28) 0 0,H (cG 30 (.RJ .eql (.t 27) (.t 29))) 0 0]) (uZ 30 (mv [cG 4 (wZ (.B true))] (Jz [4]))))) (.ops [eG 21 5,cG 22 (rS .add 21 1),eG 5 22])))
def kR:=oF.eq_1
def rO:KC:=.dU [2,3,6] (.Q (mv [eG 41 6,eN 42 3 2,dF 43 42,cG 44 (ID 43),cG 45 (qB .lss 41 44)] (.cond (.t 45) .skip (.dU [2,3] (.exit 2)))) (.Q (.block 3 (.Q (.draw [] wP) (.dU [2,3,6,72] (uZ 72 (mv [cG 4 (wZ (.B false))] (Jz [4])))))) (.ops [eG 46 6,cG 47 (rS .add 46 1),eG 6 47])))
def kS:=rO.eq_1
def rP:KC:=.dU [2,3,7] (.Q (mv [eG 76 7,eN 77 5 2,dF 78 77,cG 79 (ID 78),cG 80 (qB .lss 76 79)] (.cond (.t 80) .skip (.dU [] (.exit 4)))) (.Q (.block 5 (.Q (.draw [] [H (eN 83 5 2) 0 0,H (dF 84 83) 0 0,H (eG 85 7) 0 0,H (cG 86 (FK 6 84 85)) 0 0,H (ee 87 (dZ 6 86)) 0 0,H (eN 88 2 3) 0 0,H (dF 89 88) 0 0,H (cG 90 (.NH 3 (.t 89) (zL 0))) 0 0,H (ee 91 (dZ 3 90)) 0 0,m0 (ee 92 (qX 200 [87,91])) 0 1,H (cG 93 (q_U 92)) 1 1]) (uZ 93 (mv [cG 4 (wZ (.B false))] (Jz [4]))))) (.ops [eG 81 7,cG 82 (rS .add 81 1),eG 7 82])))
def kT:=rP.eq_1
def aAd:ay 200=some ⟨94,mv [ee 2 (q_b 6 0),ee 3 (q_b 3 1),cG 4 (wZ (.B false))] (.Q (mv [eN 8 0 2,dF 9 8,eN 10 0 3,dF 11 10,cG 12 (qB .neq 9 11)] (uZ 12 (mv [cG 4 (wZ (.B false))] (Jz [4])))) (.Q (mv [eN 13 0 2,dF 14 13,cG 15 (rS .eql 14 4)] (uZ 15 (.Q (mv [cG 5 (wZ (.I .i64 0))] (.block 0 (.L oF))) (mv [cG 4 (wZ (.B false))] (Jz [4]))))) (.Q (mv [eN 31 0 2,dF 32 31,cG 33 (rS .eql 32 5)] (uZ 33 (.Q (mv [eN 34 3 2,dF 35 34,cG 36 (ID 35),eN 37 1 3,dF 38 37,cG 39 (ID 38),cG 40 (qB .neq 36 39)] (uZ 40 (mv [cG 4 (wZ (.B false))] (Jz [4])))) (mv [cG 6 (wZ (.I .i64 0))] (.block 2 (.L rO)))))) (.Q (mv [eN 73 0 2,dF 74 73,cG 75 (rS .eql 74 6)] (uZ 75 (mv [cG 7 (wZ (.I .i64 0))] (.block 4 (.L rP))))) (mv [cG 4 (wZ (.B true))] (Jz [4])))))),[.tmp 4]⟩:=(li Tryz.func200 rfl).trans (by kernel_rfl)
def aqd:=(li Tryz.func201 rfl).trans (by cbv)
def ayy:=(li Tryz.func202 rfl).trans (by cbv)
def ay2:=(li Tryz.func203 rfl).trans (by cbv)
def atk:=(li Tryz.func204 rfl).trans (by cbv)
def ay5:=(by have h:=atk;rewrite [<-aK.eq_1,<-gY.eq_1]at h;exact h:ay 204=_)
def atl:=(li Tryz.func205 rfl).trans (by cbv)
def aAe:=(by have h:=atl;rewrite [<-aK.eq_1]at h;exact h:ay 205=_)
def ai5:=(li Tryz.func206 rfl).trans (by cbv)
def vO:KC:=ku (ay 206) 0
def jZ:=(by have h:=(dK ai5 0).trans (by cbv);exact h:vO=_)
def aAf:=(by have h:=ai5;rewrite [<-aK.eq_1,<-jZ]at h;exact h:ay 206=_)
def VQ:=(li Tryz.func207 rfl).trans (by cbv)
def wQ:KC:=ku (ay 207) 0
def eV:=(by have h:=(dK VQ 0).trans (by cbv);exact h:wQ=_)
def wR:KC:=ku (ay 207) 1
def kU:=(by have h:=(dK VQ 1).trans (by cbv);rewrite [<-eV]at h;exact h:wR=_)
def wS:KC:=ku (ay 207) 2
def kV:=(by have h:=(dK VQ 2).trans (by cbv);rewrite [<-eV,<-kU]at h;exact h:wS=_)
def aAg:=(by have h:=VQ;rewrite [<-eV,<-kU,<-kV]at h;exact h:ay 207=_)
def abp:=(li Tryz.func208 rfl).trans (by cbv)
def G5:List KO:=xF (ay 208) 4
def nW:=(by have h:=(m7 abp 4).trans (by cbv);exact h:G5=_)
def sF:KC:=ku (ay 208) 0
def lG:=(by have h:=(dK abp 0).trans (by cbv);rewrite [<-nW]at h;exact h:sF=_)
def azj:=(by have h:=abp;rewrite [<-nW,<-lG]at h;exact h:ay 208=_)
def abq:=(li Tryz.func209 rfl).trans (by cbv)
def sG:KC:=ku (ay 209) 0
def jr:=(by have h:=(dK abq 0).trans (by cbv);exact h:sG=_)
def yD:KC:=ku (ay 209) 1
def lL:=(by have h:=(dK abq 1).trans (by cbv);rewrite [<-jr]at h;exact h:yD=_)
def azk:=(by have h:=abq;rewrite [<-jr,<-lL]at h;exact h:ay 209=_)
def ai6:=(li Tryz.func210 rfl).trans (by cbv)
def uJ:KC:=ku (ay 210) 0
def jA:=(by have h:=(dK ai6 0).trans (by cbv);exact h:uJ=_)
def aAh:=(by have h:=ai6;rewrite [<-jA]at h;exact h:ay 210=_)
def Ma:=(li Tryz.func211 rfl).trans (by cbv)
def yJ:KC:=ku (ay 211) 0
def lW:=(by have h:=(dK Ma 0).trans (by cbv);exact h:yJ=_)
def sH:KC:=ku (ay 211) 1
def h_:=(by have h:=(dK Ma 1).trans (by cbv);exact h:sH=_)
def yK:KC:=ku (ay 211) 2
def lX:=(by have h:=(dK Ma 2).trans (by cbv);exact h:yK=_)
def yL:KC:=ku (ay 211) 3
def ju:=(by have h:=(dK Ma 3).trans (by cbv);exact h:yL=_)
def yM:KC:=ku (ay 211) 4
def lY:=(by have h:=(dK Ma 4).trans (by cbv);rewrite [<-ju]at h;exact h:yM=_)
def aAi:=(by have h:=Ma;rewrite [<-lW,<-h_,<-lX,<-ju,<-lY]at h;exact h:ay 211=_)
def atm:=(li Tryz.func212 rfl).trans (by cbv)
def aAj:=(by have h:=atm;rewrite [<-G6.eq_1]at h;exact h:ay 212=_)
def ai7:=(li Tryz.func213 rfl).trans (by cbv)
def vQ:KC:=ku (ay 213) 0
def j0:=(by have h:=(dK ai7 0).trans (by cbv);exact h:vQ=_)
def aAk:=(by have h:=ai7;rewrite [<-cK.eq_1,<-j0]at h;exact h:ay 213=_)
def atn:=(li Tryz.func214 rfl).trans (by cbv)
def aAl:=(by have h:=atn;rewrite [<-cK.eq_1]at h;exact h:ay 214=_)
def ai8:=(li Tryz.func215 rfl).trans (by cbv)
def yO:KC:=ku (ay 215) 0
def ia:=(by have h:=(dK ai8 0).trans (by cbv);exact h:yO=_)
def aAm:=(by have h:=ai8;rewrite [<-cK.eq_1,<-ia]at h;exact h:ay 215=_)
def ai9:=(li Tryz.func216 rfl).trans (by cbv)
def wT:KC:=ku (ay 216) 0
def iZ:=(by have h:=(dK ai9 0).trans (by cbv);exact h:wT=_)
def aAn:=(by have h:=ai9;rewrite [<-cK.eq_1,<-iZ]at h;exact h:ay 216=_)
def ato:=(li Tryz.func217 rfl).trans (by cbv)
def aAo:=(by have h:=ato;rewrite [<-cK.eq_1]at h;exact h:ay 217=_)
def ai_:=(li Tryz.func218 rfl).trans (by cbv)
def yQ:KC:=ku (ay 218) 0
def l_:=(by have h:=(dK ai_ 0).trans (by cbv);exact h:yQ=_)
def aAp:=(by have h:=ai_;rewrite [<-cK.eq_1,<-l_]at h;exact h:ay 218=_)
def aja:=(li Tryz.func219 rfl).trans (by cbv)
def wU:KC:=ku (ay 219) 0
def i_:=(by have h:=(dK aja 0).trans (by cbv);exact h:wU=_)
def aAq:=(by have h:=aja;rewrite [<-i_]at h;exact h:ay 219=_)
def ajb:=(li Tryz.func220 rfl).trans (by cbv)
def yR:KC:=ku (ay 220) 0
def mb:=(by have h:=(dK ajb 0).trans (by cbv);exact h:yR=_)
def aAr:=(by have h:=ajb;rewrite [<-cK.eq_1,<-mb]at h;exact h:ay 220=_)
def atp:=(li Tryz.func221 rfl).trans (by cbv)
def aAs:=(by have h:=atp;rewrite [<-cK.eq_1]at h;exact h:ay 221=_)
def atq:=(li Tryz.func222 rfl).trans (by cbv)
def aAt:=(by have h:=atq;rewrite [<-cK.eq_1]at h;exact h:ay 222=_)
def ajc:=(li Tryz.func223 rfl).trans (by cbv)
def uK:KC:=ku (ay 223) 0
def g9:=(by have h:=(dK ajc 0).trans (by cbv);exact h:uK=_)
def aAu:=(by have h:=ajc;rewrite [<-g9]at h;exact h:ay 223=_)
def aAv:=(li Tryz.func224 rfl).trans (by cbv)
def aAw:=(li Tryz.func225 rfl).trans (by cbv)
def aAx:=(li Tryz.func226 rfl).trans (by cbv)
def ajd:=(li Tryz.func227 rfl).trans (by cbv)
def uG:KC:=ku (ay 227) 0
def jw:=(by have h:=(dK ajd 0).trans (by cbv);exact h:uG=_)
def axR:=(by have h:=ajd;rewrite [<-jw]at h;exact h:ay 227=_)
def aje:=(li Tryz.func228 rfl).trans (by cbv)
def uH:KC:=ku (ay 228) 0
def jx:=(by have h:=(dK aje 0).trans (by cbv);exact h:uH=_)
def axS:=(by have h:=aje;rewrite [<-jx]at h;exact h:ay 228=_)
def ajf:=(li Tryz.func229 rfl).trans (by cbv)
def qd:KC:=ku (ay 229) 0
def fU:=(by have h:=(dK ajf 0).trans (by cbv);rewrite [<-ah.eq_1]at h;exact h:qd=_)
def axT:=(by have h:=ajf;rewrite [<-ah.eq_1,<-fU]at h;exact h:ay 229=_)
def ajg:=(li Tryz.func230 rfl).trans (by cbv)
def NZ:List KO:=xF (ay 230) 1
def rX:=(by have h:=(m7 ajg 1).trans (by cbv);exact h:NZ=_)
def aqe:=(by have h:=ajg;rewrite [<-rX]at h;exact h:ay 230=_)
def ajh:=(li Tryz.func231 rfl).trans (by cbv)
def pO:KC:=ku (ay 231) 0
def fP:=(by have h:=(dK ajh 0).trans (by cbv);exact h:pO=_)
def axU:=(by have h:=ajh;rewrite [<-fP]at h;exact h:ay 231=_)
def aAy:=(li Tryz.func232 rfl).trans (by cbv)
def aji:=(li Tryz.func233 rfl).trans (by cbv)
def Sb:List KO:=xF (ay 233) 1
def cH:=(by have h:=(m7 aji 1).trans (by cbv);rewrite [<-ah.eq_1]at h;exact h:Sb=_)
def Yy:=(by have h:=aji;rewrite [<-ah.eq_1,<-cH]at h;exact h:ay 233=_)
def ajj:=(li Tryz.func234 rfl).trans (by cbv)
def QA:List KO:=xF (ay 234) 1
def CX:=(by have h:=(m7 ajj 1).trans (by cbv);exact h:QA=_)
def azd:=(by have h:=ajj;rewrite [<-CX]at h;exact h:ay 234=_)
def ajk:=(li Tryz.func235 rfl).trans (by cbv)
def N0:List KO:=xF (ay 235) 1
def rV:=(by have h:=(m7 ajk 1).trans (by cbv);exact h:N0=_)
def azf:=(by have h:=ajk;rewrite [<-rV]at h;exact h:ay 235=_)
end
end Go.Proofs.YtefopednbffpaaaGreatDoor.am
