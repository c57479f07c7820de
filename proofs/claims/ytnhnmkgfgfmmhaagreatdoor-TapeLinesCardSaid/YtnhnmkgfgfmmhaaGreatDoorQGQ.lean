/- Parts. No condition. -/
import Derived.KernelRfl
import Derived.Test.YtnhnmkgfgfmmhaaGreatDoorQGP
set_option linter.all false
namespace Go.Proofs.YtnhnmkgfgfmmhaaGreatDoor.am
open Go
open Bool renaming false->O
open Decidable renaming decide->bN
noncomputable section
set_option maxRecDepth 100000
set_option maxHeartbeats 0
def OJ:=(li Tryz.func66 rfl).trans (by cbv)
def wh:List KO:=qM (aC 66) 3
def ec:=(by have h:=(jb OJ 3).trans (by cbv);exact h:wh=_)
def wi:List KO:=qM (aC 66) 4
def ed:=(by have h:=(jb OJ 4).trans (by cbv);exact h:wi=_)
def pH:KC:=nY (aC 66) 0
def ef:=(by have h:=(gF OJ 0).trans (by cbv);rewrite [<-ec,<-ed]at h;exact h:pH=_)
def aiI:=(by have h:=OJ;rewrite [<-ec,<-ed,<-ef]at h;exact h:aC 66=_)
def aiJ:=(li Tryz.func67 rfl).trans (by cbv)
def aiK:=(li Tryz.func68 rfl).trans (by cbv)
def Xw:=(li Tryz.func69 rfl).trans (by cbv)
def pI:KC:=nY (aC 69) 0
def eh:=(by have h:=(gF Xw 0).trans (by cbv);exact h:pI=_)
def aiL:=(by have h:=Xw;rewrite [<-eh]at h;exact h:aC 69=_)
def aiM:=(li Tryz.func70 rfl).trans (by cbv)
def Xx:=(li Tryz.func71 rfl).trans (by cbv)
def pJ:KC:=nY (aC 71) 0
def dC:=(by have h:=(gF Xx 0).trans (by cbv);exact h:pJ=_)
def aiN:=(by have h:=Xx;rewrite [<-dC]at h;exact h:aC 71=_)
def Xy:=(li Tryz.func72 rfl).trans (by cbv)
def pk:KC:=nY (aC 72) 0
def fg:=(by have h:=(gF Xy 0).trans (by cbv);exact h:pk=_)
def ah5:=(by have h:=Xy;rewrite [<-fg]at h;exact h:aC 72=_)
def Di:=(li Tryz.func73 rfl).trans (by cbv)
def pn:List KO:=qM (aC 73) 2
def og:=(by have h:=(jb Di 2).trans (by cbv);exact h:pn=_)
def pt:List KO:=qM (aC 73) 4
def oh:=(by have h:=(jb Di 4).trans (by cbv);exact h:pt=_)
def pv:List KO:=qM (aC 73) 6
def oi:=(by have h:=(jb Di 6).trans (by cbv);rewrite [<-ah.eq_1]at h;exact h:pv=_)
def pw:List KO:=qM (aC 73) 8
def oj:=(by have h:=(jb Di 8).trans (by cbv);rewrite [<-ah.eq_1]at h;exact h:pw=_)
def py:List KO:=qM (aC 73) 11
def oo:=(by have h:=(jb Di 11).trans (by cbv);exact h:py=_)
def wj:List KD:=dwK (aC 73) 0
def gH:=(by have h:=(Y4 Di 0).trans (by cbv);exact h:wj=_)
def l5:KC:=nY (aC 73) 0
def fh:=(by have h:=(gF Di 0).trans (by cbv);rewrite [<-gH]at h;exact h:l5=_)
def ah8:=(by have h:=Di;rewrite [<-ah.eq_1,<-og,<-oh,<-oi,<-oj,<-oo,<-gH,<-fh]at h;exact h:aC 73=_)
def aiO:=(li Tryz.func74 rfl).trans (by cbv)
def ah6:=(li Tryz.func75 rfl).trans (by cbv)
def ah7:=(li Tryz.func76 rfl).trans (by cbv)
def Xz:=(li Tryz.func77 rfl).trans (by cbv)
def pL:KC:=nY (aC 77) 0
def cG:=(by have h:=(gF Xz 0).trans (by cbv);exact h:pL=_)
def aiP:=(by have h:=Xz;rewrite [<-cG]at h;exact h:aC 77=_)
def XA:=(li Tryz.func82 rfl).trans (by cbv)
def nU:KC:=nY (aC 82) 0
def fI:=(by have h:=(gF XA 0).trans (by cbv);exact h:nU=_)
def ahI:=(by have h:=XA;rewrite [<-fI]at h;exact h:aC 82=_)
def XB:=(li Tryz.func83 rfl).trans (by cbv)
def Fq:List KO:=qM (aC 83) 1
def iO:=(by have h:=(jb XB 1).trans (by cbv);exact h:Fq=_)
def ahL:=(by have h:=XB;rewrite [<-iO]at h;exact h:aC 83=_)
def XC:=(li Tryz.func84 rfl).trans (by cbv)
def DW:List KO:=qM (aC 84) 1
def pj:=(by have h:=(jb XC 1).trans (by cbv);exact h:DW=_)
def ahM:=(by have h:=XC;rewrite [<-pj]at h;exact h:aC 84=_)
def XD:=(li Tryz.func85 rfl).trans (by cbv)
def lO:KC:=nY (aC 85) 0
def et:=(by have h:=(gF XD 0).trans (by cbv);rewrite [<-kI.eq_1]at h;exact h:lO=_)
def ahJ:=(by have h:=XD;rewrite [<-kI.eq_1,<-et]at h;exact h:aC 85=_)
def ahN:=(li Tryz.func86 rfl).trans (by cbv)
def XE:=(li Tryz.func87 rfl).trans (by cbv)
def lQ:KC:=nY (aC 87) 0
def ew:=(by have h:=(gF XE 0).trans (by cbv);rewrite [<-ab.eq_1]at h;exact h:lQ=_)
def ahK:=(by have h:=XE;rewrite [<-ab.eq_1,<-ew]at h;exact h:aC 87=_)
def XF:=(li Tryz.func88 rfl).trans (by cbv)
def rD:KC:=nY (aC 88) 0
def iz:=(by have h:=(gF XF 0).trans (by cbv);exact h:rD=_)
def aiQ:=(by have h:=XF;rewrite [<-iz]at h;exact h:aC 88=_)
def aez:=(li Tryz.func90 rfl).trans (by cbv)
def aiR:=(by have h:=aez;rewrite [<-cC.eq_1]at h;exact h:aC 90=_)
def aeA:=(li Tryz.func91 rfl).trans (by cbv)
def aiS:=(by have h:=aeA;rewrite [<-cC.eq_1]at h;exact h:aC 91=_)
def aeB:=(li Tryz.func92 rfl).trans (by cbv)
def aiT:=(by have h:=aeB;rewrite [<-cC.eq_1,<-ag.eq_1]at h;exact h:aC 92=_)
def aeC:=(li Tryz.func93 rfl).trans (by cbv)
def aiU:=(by have h:=aeC;rewrite [<-ab.eq_1,<-cC.eq_1]at h;exact h:aC 93=_)
def aeD:=(li Tryz.func94 rfl).trans (by cbv)
def aiV:=(by have h:=aeD;rewrite [<-cC.eq_1]at h;exact h:aC 94=_)
def XG:=(li Tryz.func95 rfl).trans (by cbv)
def qg:KC:=nY (aC 95) 0
def hY:=(by have h:=(gF XG 0).trans (by cbv);exact h:qg=_)
def ahW:=(by have h:=XG;rewrite [<-hY]at h;exact h:aC 95=_)
def ahY:=(li Tryz.func96 rfl).trans (by cbv)
def aiW:=(li Tryz.func99 rfl).trans (by cbv)
def aeE:=(li Tryz.func100 rfl).trans (by cbv)
def SV:=(li Tryz.func101 rfl).trans (by cbv)
def rR:KC:=nY (aC 101) 0
def dq:=(by have h:=(gF SV 0).trans (by cbv);rewrite [<-ah.eq_1]at h;exact h:rR=_)
def aeF:=(by have h:=SV;rewrite [<-ah.eq_1,<-dq]at h;exact h:aC 101=_)
def aeG:=(li Tryz.func102 rfl).trans (by cbv)
def SW:=(li Tryz.func103 rfl).trans (by cbv)
def yR:KC:=nY (aC 103) 0
def iR:=(by have h:=(gF SW 0).trans (by cbv);exact h:yR=_)
def aeH:=(by have h:=SW;rewrite [<-iR]at h;exact h:aC 103=_)
def SY:=(li Tryz.func104 rfl).trans (by cbv)
def pM:KC:=nY (aC 104) 0
def iV:=(by have h:=(gF SY 0).trans (by cbv);exact h:pM=_)
def aeI:=(by have h:=SY;rewrite [<-iV]at h;exact h:aC 104=_)
def aeJ:=(li Tryz.func105 rfl).trans (by cbv)
def Ny:=(li Tryz.func106 rfl).trans (by cbv)
def Fs:List KO:=qM (aC 106) 2
def eJ:=(by have h:=(jb Ny 2).trans (by cbv);exact h:Fs=_)
def Ft:List KO:=qM (aC 106) 11
def qD:=(by have h:=(jb Ny 11).trans (by cbv);exact h:Ft=_)
def Xg:=(by have h:=Ny;rewrite [<-eJ,<-qD]at h;exact h:aC 106=_)
def aeK:=(li Tryz.func107 rfl).trans (by cbv)
def aeL:=(li Tryz.func108 rfl).trans (by cbv)
def SZ:=(li Tryz.func109 rfl).trans (by cbv)
def w6:KC:=nY (aC 109) 0
def kL:=(by have h:=(gF SZ 0).trans (by cbv);rewrite [<-ah.eq_1]at h;exact h:w6=_)
def aeM:=(by have h:=SZ;rewrite [<-ah.eq_1,<-kL]at h;exact h:aC 109=_)
def Nz:=(li Tryz.func111 rfl).trans (by cbv)
def xq:List KO:=qM (aC 111) 4
def lF:=(by have h:=(jb Nz 4).trans (by cbv);exact h:xq=_)
def qm:KC:=nY (aC 111) 0
def fU:=(by have h:=(gF Nz 0).trans (by cbv);rewrite [<-lF]at h;exact h:qm=_)
def aeN:=(by have h:=Nz;rewrite [<-lF,<-fU]at h;exact h:aC 111=_)
def S5:=(li Tryz.func112 rfl).trans (by cbv)
def pO:KC:=nY (aC 112) 0
def fo:=(by have h:=(gF S5 0).trans (by cbv);exact h:pO=_)
def aeO:=(by have h:=S5;rewrite [<-fo]at h;exact h:aC 112=_)
def me:List KO:=[jk 10 3,eT 11 (r8 .lss 10 1),jk 12 11,DJ 13 12 3,lq 14 12 (r8 .gtr 13 6),eT 15 (DK 12 14),jk 16 15,DJ 17 16 3,lq 18 16 (r8 .neq 17 1),DJ 19 16 18,q_x 20 19 3,vG 21 19 (r8 .neq 20 2),lq 22 16 (MZ 19 21),DJ 23 16 22,vG 24 23 (tC 1 1),Hz 25 23 (uX 24),vG 26 23 (r8 .neq 25 0),lq 27 16 (MZ 23 26),eT 28 (DK 16 27),jk 29 28,DJ 30 29 3,lq 31 29 (r8 .neq 30 3),DJ 32 29 31,q_x 33 32 3,vG 34 32 (r8 .neq 33 4),lq 35 29 (MZ 32 34),DJ 36 29 35,vG 37 36 (tC 2 1),Hz 38 36 (uX 37),vG 39 36 (.Gu .neq (.t 38) (.c (.S []))),lq 40 29 (MZ 36 39),eT 41 (DK 29 40),jk 42 41,DJ 43 42 3,lq 44 42 (r8 .neq 43 5),DJ 45 42 44,vG 46 45 (tC 3 1),Hz 47 45 (uX 46),vG 48 45 (AQ 47),vG 49 45 (r8 .gtr 48 0),lq 50 42 (MZ 45 49),eT 51 (DK 42 50),jk 52 51,DJ 53 52 3,lq 54 52 (r8 .neq 53 6),DJ 55 52 54,vG 56 55 (tC 4 1),Hz 57 55 (uX 56),vG 58 55 (AQ 57),vG 59 55 (r8 .gtr 58 0),lq 60 52 (MZ 55 59),eT 61 (DK 52 60)]
def uC:=me.eq_1
def mf:List KO:=[jk 62 3,eT 63 (r8 .eql 62 1),jk 64 63,vG 65 64 (tC 1 1),Hz 66 64 (uX 65),vG 67 64 (r8 .neq 66 0),eT 68 (MZ 64 67),jk 69 68,vG 70 69 (tC 1 1),Hz 71 69 (uX 70),vG 72 69 (r8 .neq 71 1),eT 73 (MZ 69 72),jk 74 73,DJ 75 74 3,lq 76 74 (r8 .eql 75 3),DJ 77 74 76,vG 78 77 (tC 2 1),Hz 79 77 (uX 78),vG 80 77 (q_S 79),vG 81 77 (r8 .gtr 80 64),lq 82 74 (MZ 77 81),eT 83 (DK 74 82),jk 84 83,DJ 85 84 3,lq 86 84 (r8 .eql 85 4),DJ 87 84 86,vG 88 87 (tC 2 1),Hz 89 87 (uX 88),Hz 90 87 (Fc 111 [89]),vG 91 87 (PQ 90),lq 92 84 (MZ 87 91),eT 93 (DK 84 92),jk 94 93,lq 95 94 (tC 3 1),xe 96 94 (uX 95),lq 97 94 (AQ 96),lq 98 94 (r8 .gtr 97 8),eT 99 (DK 94 98),jk 100 99,lq 101 100 (tC 4 1),xe 102 100 (uX 101),lq 103 100 (AQ 102),lq 104 100 (r8 .gtr 103 12),eT 105 (DK 100 104),jk 106 105,lq 107 106 (tC 5 1),xe 108 106 (uX 107),lq 109 106 (AQ 108),lq 110 106 (tC 3 1),xe 111 106 (uX 110),lq 112 106 (AQ 111),lq 113 106 (tC 4 1),xe 114 106 (uX 113),lq 115 106 (AQ 114),lq 116 106 (Gp .add 112 115),lq 117 106 (Gp .neq 109 116),eT 118 (DK 106 117)]
def uD:=mf.eq_1
def pP:List KD:=[dS (gS 126 3 1) 0 0,dS (gA 127 126) 0 0,dS (jk 128 4) 0 0,dS (eT 129 (Cd 1 127 128)) 0 0,dS (gA 130 129) 0 0,IC (rM 131 (Fc 111 [130])) 0 1,dS (eT 132 (PQ 131)) 1 1,dS (jk 133 132) 1 1,dS (DJ 134 133 4) 1 1,dS (lq 135 133 (r8 .gtr 134 0)) 1 1,dS (DJ 136 133 135) 1 1,dS (vG 137 136 (tC 3 1)) 1 1,dS (Hz 138 136 (uX 137)) 1 1,dS (q_x 139 136 4) 1 1,dS (vG 140 136 (Cd 1 138 139)) 1 1,dS (Hz 141 136 (uX 140)) 1 1,dS (vG 142 136 (tC 3 1)) 1 1,dS (Hz 143 136 (uX 142)) 1 1,dS (q_x 144 136 4) 1 1,dS (vG 145 136 (r8 .sub 144 1)) 1 1,dS (vG 146 136 (Cd 1 143 145)) 1 1,dS (Hz 147 136 (uX 146)) 1 1,dS (vG 148 136 (.Gu .leq (.t 141) (.t 147))) 1 1,dS (lq 149 133 (MZ 136 148)) 1 1,dS (eT 150 (DK 133 149)) 1 1]
def iW:=pP.eq_1
def mh:KC:=.ds [1,4] (.Q (mn [jk 119 4,gS 120 3 1,gA 121 120,eT 122 (AQ 121),eT 123 (Gp .lss 119 122)] (.cond (.t 123) .skip (.ds [1] (.exit 0)))) (.Q (.block 1 (.Q (.draw [] pP) (.ds [1,4,150] (pZ 150 (mn [eT 2 (tT (.B false))] (DL [2])))))) (.ops [jk 124 4,eT 125 (r8 .add 124 1),jk 4 125])))
def gK:=mh.eq_1
def mi:KC:=.ds [1,5,6] (.Q (mn [jk 158 6,jk 159 5,eT 160 (Gp .lss 158 159)] (.cond (.t 160) .skip (.ds [1,5] (.exit 4)))) (.Q (.block 5 (.Q (.draw [] [dS (gS 163 4 1) 0 0,dS (gA 164 163) 0 0,dS (jk 165 5) 0 0,dS (eT 166 (Cd 1 164 165)) 0 0,dS (gA 167 166) 0 0,dS (gS 168 4 1) 0 0,dS (gA 169 168) 0 0,dS (jk 170 6) 0 0,dS (eT 171 (Cd 1 169 170)) 0 0,dS (gA 172 171) 0 0,dS (eT 173 (Gp .eql 167 172)) 0 0]) (pZ 173 (mn [eT 2 (tT (.B false))] (DL [2]))))) (.ops [jk 161 6,eT 162 (r8 .add 161 1),jk 6 162])))
def iX:=mi.eq_1
def mj:KC:=.ds [1,5] (.Q (mn [jk 151 5,gS 152 4 1,gA 153 152,eT 154 (AQ 153),eT 155 (Gp .lss 151 154)] (.cond (.t 155) .skip (.ds [1] (.exit 2)))) (.Q (.block 3 (.Q (mn [eT 6 (tT (.I .i64 0))] (.block 4 (.L mi))) (mn [gS 174 4 1,gA 175 174,jk 176 5,eT 177 (Cd 1 175 176),gA 178 177,eT 179 (.Ro .eql (.t 178) (.c (.I .u64 0)))] (pZ 179 (mn [eT 2 (tT (.B false))] (DL [2])))))) (.ops [jk 156 5,eT 157 (r8 .add 156 1),jk 5 157])))
def iY:=mj.eq_1
def ml:KC:=.ds [1,7] (.Q (mn [jk 180 7,gS 181 5 1,gA 182 181,eT 183 (AQ 182),eT 184 (Gp .lss 180 183)] (.cond (.t 184) .skip (.ds [] (.exit 6)))) (.Q (.block 7 (mn [gS 187 5 1,gA 188 187,jk 189 7,eT 190 (Cd 6 188 189),rM 191 (sr 6 190),rM 192 (Fc 113 [191]),eT 193 (PQ 192)] (pZ 193 (mn [eT 2 (tT (.B false))] (DL [2]))))) (.ops [jk 185 7,eT 186 (r8 .add 185 1),jk 7 186])))
def iZ:=ml.eq_1
def aeP:aC 113=some ⟨194,mn [rM 1 (Y1 6 0),eT 2 (tT (.B false))] (mn [gS 8 0 1,gA 9 8,jk 3 9] (.Q (mn me (.ds [1,3,61] (pZ 61 (mn [eT 2 (tT (.B false))] (DL [2]))))) (.Q (mn mf (.ds [1,118] (pZ 118 (mn [eT 2 (tT (.B false))] (DL [2]))))) (.Q (mn [eT 4 (tT (.I .i64 0))] (.block 0 (.L mh))) (.Q (mn [eT 5 (tT (.I .i64 0))] (.block 2 (.L mj))) (.Q (mn [eT 7 (tT (.I .i64 0))] (.block 6 (.L ml))) (mn [eT 2 (tT (.B true))] (DL [2])))))))),[.tmp 2]⟩:=(li Tryz.func113 rfl).trans (by kernel_rfl)
end
end Go.Proofs.YtnhnmkgfgfmmhaaGreatDoor.am
