/- Parts. No condition. -/
import Derived.Test.YtnhnmkgfgfmmhaaGreatDoorProg
import Derived.KernelRfl
import Derived.Test.YtnhnmkgfgfmmhaaGreatDoorQF
import Derived.Test.YtnhnmkgfgfmmhaaGreatDoorQD
set_option linter.all false
namespace Go.Proofs.YtnhnmkgfgfmmhaaGreatDoor.am
open Go
open Bool renaming false->O
open Decidable renaming decide->bN
noncomputable section
def nts:List (Option RH):=[none,none,none,some [(8,[4]),(17,[2,5,8,49]),(20,[4]),(28,[4]),(34,[4])],some [(8,[2]),(15,[0,3]),(20,[]),(25,[0,3,35]),(28,[2]),(33,[2])],some [(6,[0])],some [(8,[2,3]),(18,[2,3]),(43,[2,3]),(71,[2,3])],some [(10,[2,3]),(15,[1,4,66]),(18,[2,3]),(47,[2,3]),(55,[2,3]),(67,[2,3]),(75,[2,3]),(87,[2,3]),(93,[2,3])],some [(8,[2]),(18,[2]),(22,[2])],some [(4,[4]),(4,[4])],some [(4,[4]),(4,[4])],some [(13,[2,4,5,6,7]),(18,[2,4,5,6]),(36,[2,3]),(42,[2,3]),(78,[2,3]),(82,[2,3])],some [(4,[2])],some [(4,[2])],none,some [(4,[0])],some [(36,[4])],some [(4,[2])],some [(8,[2,3]),(21,[2,3]),(36,[2,3]),(40,[2,3])],some [(8,[2,3]),(15,[1,4]),(25,[2,3]),(30,[1]),(49,[2,3]),(53,[2,3])],some [(9,[3,6,7,8]),(14,[3]),(23,[2])],some [(8,[2]),(12,[2])],none,some [(10,[2]),(14,[2])],some [(4,[2])],some [(4,[2])],some [(4,[4]),(4,[4])],some [(5,[2,3,67]),(8,[4]),(15,[2,3,5]),(20,[2,3]),(25,[2,3,5,104]),(28,[4]),(36,[2,3,6]),(41,[]),(49,[4]),(54,[4])],some [(8,[2]),(12,[2])],some [(5,[1,16]),(8,[2]),(13,[1,38]),(16,[2]),(27,[2]),(33,[2]),(37,[2])],some [(24,[2])],some [(11,[0,3,4,5]),(16,[4]),(25,[2])],some [(4,[2])],some [(26,[1,3,4]),(31,[1,3]),(45,[2])],none,some [(4,[4]),(4,[4])],some [(4,[4]),(4,[4])],some [(4,[4])],some [(8,[4]),(15,[0,1,5]),(20,[]),(28,[4]),(33,[4])],some [(4,[4])],some [(9,[3,16,17]),(14,[3]),(27,[2])],some [(8,[2])],some [(14,[2]),(18,[2])],some [(8,[])],some [(10,[2]),(22,[2])],some [(8,[2]),(15,[0,3]),(20,[]),(28,[2]),(33,[2])],some [(4,[2])],some [(5,[1,2,47]),(8,[4]),(15,[1,2,5]),(20,[1,2]),(25,[1,2,5,70]),(28,[4]),(36,[1,2,6]),(41,[]),(49,[4]),(54,[4])],some [(8,[4]),(12,[4])],none,none,none,some [(4,[2])],some [(8,[2]),(21,[2]),(21,[2]),(27,[2]),(27,[2]),(33,[2]),(39,[2]),(39,[2]),(43,[2])],some [(8,[2,3]),(22,[2,3]),(26,[2,3])],some [],some [(4,[2])],some [(4,[2])],some [(19,[2,3]),(29,[2,3]),(39,[2,3]),(45,[2,3]),(55,[2,3]),(59,[2,3])],some [(8,[2])],some [(36,[0,3,63,64,65]),(41,[0,3]),(53,[0,78,79,80]),(58,[])],none,some [(8,[4]),(15,[0,1,5]),(20,[]),(28,[4]),(33,[4])],some [(5,[2,3,53]),(8,[4]),(15,[2,3,5]),(20,[2,3]),(28,[4]),(36,[2,3,6]),(41,[2,3]),(49,[4]),(57,[2,3,7]),(62,[]),(70,[4]),(75,[4])],some [(5,[2,3,29]),(8,[4]),(15,[2,3,5]),(20,[2,3]),(28,[4]),(36,[2,3,6]),(41,[]),(49,[4]),(54,[4])],some [(10,[2]),(14,[2])],some [(7,[0,3]),(12,[0]),(17,[0,3,4]),(19,[0,3,4,5]),(24,[2]),(29,[2])],some [(4,[2])],some [(4,[2])],some [(9,[0,3,4]),(14,[3]),(27,[2])],some [(8,[2]),(12,[2])],some [(13,[2]),(19,[2]),(29,[2]),(38,[1,3,4]),(43,[3]),(56,[2])],some [(9,[1,3,4]),(14,[3]),(27,[2])],some [(7,[1,3,18]),(10,[2]),(15,[1,3,43]),(18,[2]),(23,[1,3,72]),(26,[2]),(31,[1,3,87]),(34,[2]),(43,[1,3,105]),(46,[2]),(52,[1,3,4]),(57,[1,3]),(62,[1,3,4,132]),(65,[2]),(75,[2]),(79,[2])],some [(4,[2])],some [(4,[2])],some [(4,[2])],some [(15,[1,3,4]),(20,[1,3]),(39,[2])],none,none,none,none,some [(8,[4]),(15,[0,1,12,13]),(20,[]),(30,[4]),(35,[4])],some [(4,[4]),(4,[4])],some [(4,[4]),(4,[4])],some [(8,[6]),(15,[1,2,15,16,17]),(20,[]),(32,[6]),(37,[6])],some [(4,[4])],some [(8,[6]),(15,[1,2,15,16,17]),(20,[]),(32,[6]),(37,[6])],some [(8,[8]),(16,[8]),(35,[0,1,2,3,9,10]),(40,[0,9,10]),(48,[0,9,10]),(59,[8])],none,some [],some [(14,[2]),(18,[2])],some [(8,[2,3]),(22,[2,3]),(26,[2,3])],some [(8,[2,3]),(22,[2,3]),(26,[2,3])],some [(8,[2]),(12,[2])],some [(10,[6]),(17,[1,2,3,7]),(22,[1]),(29,[6])],some [(4,[2])],none,none,some [(4,[2])],some [(4,[2])],some [(29,[0,3,40,41,42]),(34,[])],some [],some [(4,[]),(12,[0,14,15,16]),(17,[])],some [(3,[0,1]),(8,[0,1])],some [],some [(8,[1,2,5,13]),(11,[4]),(17,[4]),(23,[4]),(29,[4]),(35,[4]),(35,[4]),(39,[4])],some [(8,[2,3]),(22,[2,3]),(26,[2,3])],some [],some [(4,[0,8,9,10]),(9,[])],none,some [(7,[0,3]),(12,[0]),(19,[0,3,32]),(22,[2]),(27,[2])],some [(9,[1,3,4]),(14,[3]),(27,[2])],some [(7,[1,3,61]),(10,[2]),(15,[1,118]),(18,[2]),(25,[1,4]),(30,[1]),(35,[1,4,150]),(38,[2]),(46,[1,5]),(51,[1]),(59,[1,5,6]),(64,[1,5]),(72,[2]),(80,[2]),(88,[1,7]),(93,[]),(101,[2]),(106,[2])],some [(8,[2]),(12,[2])],some [(4,[4])],some [(4,[2])],none,none,none,some [(8,[4]),(15,[0,1,12,13]),(20,[]),(30,[4]),(35,[4])],some [(8,[4]),(15,[0,1,12,13]),(20,[]),(30,[4]),(35,[4])],some [(8,[6]),(15,[1,2,15,16,17]),(20,[]),(32,[6]),(37,[6])],some [(8,[6]),(15,[1,2,15,16,17]),(20,[]),(32,[6]),(37,[6])],some [(17,[0,1,6,7]),(22,[0,1,6]),(39,[4])],none,some [(4,[4])],none,none,some [(9,[0,4,5]),(14,[4]),(20,[0,4,5,31]),(23,[2,3]),(29,[2,3])],some [(4,[2])],some [(93,[2]),(97,[2])],some [(5,[0,16]),(8,[2]),(12,[2])],some [(4,[2])],some [(10,[2]),(14,[2])],some [(10,[6]),(17,[1,2,3,7]),(22,[1,2,3]),(30,[6]),(38,[1,2,3,8]),(43,[1]),(50,[6])],none,none,none,none,none,some [(4,[4])],some [(4,[2])],some [(8,[2]),(12,[2])],some [(4,[4]),(4,[4])],some [],some [],some [(6,[2])],some [(4,[4]),(4,[4])],some [(4,[2]),(4,[2])],some [(4,[2]),(4,[2])],some [(4,[2])],some [(15,[0,3,26,27,28]),(20,[0,3])],some [],none,some [(4,[2])],some [(8,[4]),(19,[2,3,5]),(24,[]),(32,[4]),(37,[4]),(49,[4]),(55,[2,3,6]),(60,[2,3]),(65,[2,3,6,72]),(68,[4]),(80,[2,3,7]),(85,[]),(93,[4]),(99,[4])],some [(7,[2,4]),(12,[2]),(17,[2])],some [(8,[2,3]),(10,[2,3])],none,some [(11,[4]),(17,[4]),(23,[4]),(29,[4]),(44,[0,1,5,6,7,8,9,10]),(49,[]),(63,[4]),(70,[0,1,5,6,7,8,9,10,93]),(73,[4]),(90,[4]),(94,[4]),(97,[0,1,5,6,7,8,9,10,132]),(106,[4]),(110,[4]),(114,[4])],none,none,none,none,none,some [(9,[2]),(15,[2]),(19,[2])],some [(8,[2])],some [(2,[0,1,16])],some [(17,[0,3,4,5]),(22,[0,4]),(33,[2]),(37,[2])],some [(8,[4])],some [(4,[2])],some [(8,[2]),(12,[2])],some [(7,[5,6,7]),(12,[]),(22,[2]),(27,[2])],some [(24,[4]),(45,[0,1,4,5,6,8,59]),(68,[4]),(72,[4])],none,none,none,none,none,some [(7,[0,1,7,8]),(12,[]),(22,[4]),(27,[4])],some [(4,[1,3]),(13,[2]),(13,[2]),(19,[2]),(25,[2]),(25,[2]),(31,[2]),(31,[2]),(37,[2]),(37,[2]),(43,[2]),(43,[2]),(47,[2])],some [(4,[4])],some [(4,[3])],some [(4,[4])],some [(4,[2]),(4,[2])],some [(4,[4])],some [(4,[2])],some [(4,[2])],some [(4,[4])],some [(4,[3]),(4,[3])],some [(4,[4]),(4,[4])],some [(9,[1,3,4]),(14,[3]),(27,[2])],some [(5,[1,47]),(8,[2]),(30,[2]),(37,[1,4]),(42,[1]),(51,[2]),(57,[1,4,5]),(62,[1,4]),(67,[1,4,5,109]),(70,[2]),(79,[1,6]),(84,[]),(92,[2]),(97,[2])],some [(10,[2,3]),(24,[2,3]),(36,[2,3]),(46,[2,3]),(54,[2,3]),(64,[2,3]),(72,[2,3]),(82,[2,3]),(86,[2,3])],none,none,some [(4,[2])],some [(13,[0,1,5,6,7,8,9]),(18,[0,1,5,6,7,8]),(29,[4]),(36,[0,1,5,6,7,8,10]),(41,[]),(53,[0,1,5,6,7,8,10,77]),(56,[4]),(60,[4])],none,none,none,some [(4,[]),(14,[])],some [(8,[3,4]),(14,[3,4])],some [(18,[2])],some [(10,[4,5]),(16,[4,5])],some [(9,[5,8,9,10]),(14,[]),(22,[5,6,7,8,9,10,24]),(23,[]),(37,[]),(41,[2,3,4]),(45,[2,3,4])],some [(16,[4]),(58,[0,1,4,5,51,52]),(63,[0,4,5]),(92,[4]),(96,[4])],some [(12,[4])],some [(4,[3])],some [(4,[2])],some [(12,[4])],some [(14,[0,1,2,6,7]),(19,[])],none,none,some [(7,[0,5,6,7]),(12,[0]),(19,[0,5,6,7,27]),(22,[2]),(27,[2])],some [(7,[0,5,6,7]),(12,[0]),(22,[2]),(27,[2])],some [(7,[0,1,7,8]),(12,[]),(22,[4]),(27,[4])],some [(7,[1,2,10]),(12,[]),(21,[6]),(25,[6])],some [(5,[2,3,38]),(8,[4]),(15,[3,40,41,42]),(20,[]),(38,[4]),(43,[4])],some [(7,[0,1,7,8]),(12,[]),(22,[4]),(27,[4])],some [(19,[2]),(25,[2]),(25,[2]),(31,[2]),(31,[2]),(37,[2]),(41,[2])],some [(4,[4])],some [(4,[3])],none,some [(9,[0,4,5]),(14,[0,4]),(26,[4,6,7,8]),(31,[4,6]),(44,[2,3])],none,none,some [(4,[4])],some [(8,[2])],some [(6,[2])],some [(12,[2])],some [(12,[4]),(16,[4])],some [(16,[4]),(41,[0,4,5,29,30]),(46,[0,4,5]),(58,[0,1,4,5,38,39]),(63,[0,4,5]),(81,[4]),(85,[4])],some [(4,[4])],some [(4,[4])],some [(4,[2])],some [(7,[0,5,6,7]),(12,[]),(22,[2]),(27,[2])],some [(4,[2])],some [(7,[0,1,7,8]),(12,[]),(22,[4]),(27,[4])],some [(8,[4])],some [(8,[3,4]),(14,[3,4])],some [(11,[4]),(19,[4]),(27,[4])],some [(6,[0,30])],some [(7,[0,1,7,8]),(12,[]),(22,[4]),(27,[4])],some [(7,[0,1,7,8]),(12,[]),(22,[4]),(27,[4])],some [(4,[4])],some [(4,[2])],some [(7,[0,3]),(12,[]),(20,[2]),(25,[2])],some [(11,[4,5]),(17,[4,5]),(23,[4,5]),(29,[4,5])],some [(7,[0,1,7,8]),(12,[]),(22,[4]),(27,[4])],some [(4,[4]),(4,[4])],some [(4,[2])]]
def aC(f:FuncId):Option KF:=(nts[f]?).join.bind λs=>(Tryz.prog.funcs[f]?).bind λfn=>kfm Tryz.prog fn s
def Th(f:FuncId)(k:KF)(h:aC f=some k):∃fn,Tryz.prog.funcs[f]? =some fn/\U9 Tryz.prog fn k:=by unfold aC at h;obtain⟨s,_,h⟩:=zZ.1 h;obtain⟨fn,a,h⟩:=zZ.1 h;exact⟨fn,a,Y3 h⟩
def li{f:FuncId}{fn:Func}{s:RH}(h:Tryz.prog.funcs[f]? =some fn)(g:(nts[f]?).join=some s):aC f=kfm Tryz.prog fn s:=by unfold aC;rw[g,h];rfl
end
noncomputable section
set_option maxRecDepth 100000
set_option maxHeartbeats 0
def adn:=(li Tryz.func3 rfl).trans (by cbv)
def tj:List KD:=dwK (aC 3) 0
def mB:=(by have h:=(Y4 adn 0).trans (by cbv);exact h:tj=_)
def e_3:=(by have h:=adn;rewrite [<-ak.eq_1,<-cC.eq_1,<-mB]at h;exact h:aC 3=_)
def Zk:=(li Tryz.func4 rfl).trans (by cbv)
def wc:List KO:=qM (aC 4) 5
def kT:=(by have h:=(jb Zk 5).trans (by cbv);exact h:wc=_)
def pA:KC:=nY (aC 4) 0
def dA:=(by have h:=(gF Zk 0).trans (by cbv);rewrite [<-kT]at h;exact h:pA=_)
def e_4:=(by have h:=Zk;rewrite [<-kT,<-dA]at h;exact h:aC 4=_)
def aia:=(li Tryz.func5 rfl).trans (by cbv)
def e_5:=(by have h:=aia;rewrite [<-ak.eq_1,<-cC.eq_1]at h;exact h:aC 5=_)
def aib:=(li Tryz.func6 rfl).trans (by cbv)
def Ns:=(by have h:=aib;rewrite [<-cC.eq_1]at h;exact h:aC 6=_)
def ado:=(li Tryz.func7 rfl).trans (by cbv)
def xj:List KO:=qM (aC 7) 4
def bu:=(by have h:=(jb ado 4).trans (by cbv);rewrite [<-ab.eq_1,<-ag.eq_1]at h;exact h:xj=_)
def Ef:=(by have h:=ado;rewrite [<-ab.eq_1,<-ag.eq_1,<-bu]at h;exact h:aC 7=_)
def aic:=(li Tryz.func8 rfl).trans (by cbv)
def e_8:=(by have h:=aic;rewrite [<-cC.eq_1]at h;exact h:aC 8=_)
def adp:=(li Tryz.func9 rfl).trans (by cbv)
def GF:List KO:=qM (aC 9) 1
def iG:=(by have h:=(jb adp 1).trans (by cbv);exact h:GF=_)
def e_9:=(by have h:=adp;rewrite [<-iG]at h;exact h:aC 9=_)
def Xh:=(li Tryz.func10 rfl).trans (by cbv)
def xk:List KO:=qM (aC 10) 1
def dM:=(by have h:=(jb Xh 1).trans (by cbv);exact h:xk=_)
def aid:=(by have h:=Xh;rewrite [<-dM]at h;exact h:aC 10=_)
def Xi:=(li Tryz.func11 rfl).trans (by cbv)
def yF:KC:=nY (aC 11) 0
def cZ:=(by have h:=(gF Xi 0).trans (by cbv);exact h:yF=_)
def I9:=(by have h:=Xi;rewrite [<-ca.eq_1,<-ak.eq_1,<-cC.eq_1,<-aP.eq_1,<-cZ]at h;exact h:aC 11=_)
def ah1:=(li Tryz.func12 rfl).trans (by cbv)
def ah0:=(li Tryz.func13 rfl).trans (by cbv)
def adq:=(li Tryz.func15 rfl).trans (by cbv)
def aie:=(by have h:=adq;rewrite [<-ca.eq_1,<-aP.eq_1]at h;exact h:aC 15=_)
def adr:=(li Tryz.func16 rfl).trans (by cbv)
def I_:=(by have h:=adr;rewrite [<-ak.eq_1]at h;exact h:aC 16=_)
def aif:=(li Tryz.func17 rfl).trans (by cbv)
def ads:=(li Tryz.func18 rfl).trans (by cbv)
def aih:=(by have h:=ads;rewrite [<-cC.eq_1]at h;exact h:aC 18=_)
def Xj:=(li Tryz.func19 rfl).trans (by cbv)
def rQ:KC:=nY (aC 19) 0
def fJ:=(by have h:=(gF Xj 0).trans (by cbv);rewrite [<-ab.eq_1]at h;exact h:rQ=_)
def aii:=(by have h:=Xj;rewrite [<-ab.eq_1,<-fJ]at h;exact h:aC 19=_)
def Xk:=(li Tryz.func20 rfl).trans (by cbv)
def yG:KC:=nY (aC 20) 0
def lC:=(by have h:=(gF Xk 0).trans (by cbv);exact h:yG=_)
def aij:=(by have h:=Xk;rewrite [<-lC]at h;exact h:aC 20=_)
def aik:=(li Tryz.func21 rfl).trans (by cbv)
def ail:=(li Tryz.func23 rfl).trans (by cbv)
def aim:=(li Tryz.func24 rfl).trans (by cbv)
def ain:=(li Tryz.func25 rfl).trans (by cbv)
def Xl:=(li Tryz.func26 rfl).trans (by cbv)
def xl:List KO:=qM (aC 26) 1
def fR:=(by have h:=(jb Xl 1).trans (by cbv);exact h:xl=_)
def ahU:=(by have h:=Xl;rewrite [<-fR]at h;exact h:aC 26=_)
def qj:List KO:=[gS 7 0 2,gA 8 7,gS 9 0 3,gA 10 9,eT 11 (Gp .neq 8 10),jk 12 11,lq 13 12 (tC 1 2),xe 14 12 (uX 13),lq 15 12 (tC 1 3),xe 16 12 (uX 15),lq 17 12 (.Gu .neq (.t 14) (.t 16)),eT 18 (DK 12 17),jk 19 18,lq 20 19 (tC 2 2),xe 21 19 (uX 20),lq 22 19 (tC 2 3),xe 23 19 (uX 22),lq 24 19 (.Gu .neq (.t 21) (.t 23)),eT 25 (DK 19 24),jk 26 25,lq 27 26 (tC 3 2),xe 28 26 (sr 3 27),lq 29 26 (tC 3 3),xe 30 26 (sr 3 29),xe 31 26 (Fc 64 [28,30]),lq 32 26 (PQ 31),eT 33 (DK 26 32),jk 34 33,lq 35 34 (tC 6 2),xe 36 34 (sr 6 35),lq 37 34 (tC 6 3),xe 38 34 (sr 6 37),xe 39 34 (Fc 63 [36,38]),lq 40 34 (PQ 39),eT 41 (DK 34 40),jk 42 41,lq 43 42 (tC 12 2),xe 44 42 (sr 6 43),lq 45 42 (tC 12 3),xe 46 42 (sr 6 45),xe 47 42 (Fc 63 [44,46]),lq 48 42 (PQ 47),eT 49 (DK 42 48),jk 50 49,lq 51 50 (tC 18 2),xe 52 50 (uX 51),lq 53 50 (AQ 52),lq 54 50 (tC 18 3),xe 55 50 (uX 54),lq 56 50 (AQ 55),lq 57 50 (Gp .neq 53 56),eT 58 (DK 50 57),jk 59 58,lq 60 59 (tC 19 2),xe 61 59 (uX 60),lq 62 59 (AQ 61),lq 63 59 (tC 19 3),xe 64 59 (uX 63),lq 65 59 (AQ 64),lq 66 59 (Gp .neq 62 65),eT 67 (DK 59 66)]
def dp:=qj.eq_1
def qk:List KD:=[dS (gS 75 18 2) 0 0,dS (gA 76 75) 0 0,dS (jk 77 5) 0 0,dS (eT 78 (Cd 12 76 77)) 0 0,dS (gS 79 0 78) 0 0,dS (rM 80 (sr 6 79)) 0 0,dS (gS 81 18 3) 0 0,dS (gA 82 81) 0 0,dS (jk 83 5) 0 0,dS (eT 84 (Cd 12 82 83)) 0 0,dS (gS 85 0 84) 0 0,dS (rM 86 (sr 6 85)) 0 0,IC (rM 87 (Fc 63 [80,86])) 0 1,dS (eT 88 (PQ 87)) 1 1,dS (jk 89 88) 1 1,dS (lq 90 89 (tC 18 2)) 1 1,dS (xe 91 89 (uX 90)) 1 1,dS (DJ 92 89 5) 1 1,dS (lq 93 89 (Cd 12 91 92)) 1 1,dS (lq 94 89 (tC 6 93)) 1 1,dS (xe 95 89 (sr 6 94)) 1 1,dS (lq 96 89 (tC 18 3)) 1 1,dS (xe 97 89 (uX 96)) 1 1,dS (DJ 98 89 5) 1 1,dS (lq 99 89 (Cd 12 97 98)) 1 1,dS (lq 100 89 (tC 6 99)) 1 1,dS (xe 101 89 (sr 6 100)) 1 1,IC (xe 102 89 (Fc 63 [95,101])) 1 2,dS (lq 103 89 (PQ 102)) 2 2,dS (eT 104 (DK 89 103)) 2 2]
def js:=qk.eq_1
def mT:KC:=.ds [2,3,5] (.Q (mn [jk 68 5,gS 69 18 2,gA 70 69,eT 71 (AQ 70),eT 72 (Gp .lss 68 71)] (.cond (.t 72) .skip (.ds [2,3] (.exit 0)))) (.Q (.block 1 (.Q (.draw [] qk) (.ds [2,3,5,104] (pZ 104 (mn [eT 4 (tT (.B false))] (DL [4])))))) (.ops [jk 73 5,eT 74 (r8 .add 73 1),jk 5 74])))
def jr:=mT.eq_1
def mU:KC:=.ds [2,3,6] (.Q (mn [jk 105 6,gS 106 19 2,gA 107 106,eT 108 (AQ 107),eT 109 (Gp .lss 105 108)] (.cond (.t 109) .skip (.ds [] (.exit 2)))) (.Q (.block 3 (.Q (.draw [] [dS (gS 112 19 2) 0 0,dS (gA 113 112) 0 0,dS (jk 114 6) 0 0,dS (eT 115 (Cd 20 113 114)) 0 0,dS (rM 116 (sr 20 115)) 0 0,dS (gS 117 19 3) 0 0,dS (gA 118 117) 0 0,dS (jk 119 6) 0 0,dS (eT 120 (Cd 20 118 119)) 0 0,dS (rM 121 (sr 20 120)) 0 0,IC (rM 122 (Fc 27 [116,121])) 0 1,dS (eT 123 (PQ 122)) 1 1]) (pZ 123 (mn [eT 4 (tT (.B false))] (DL [4]))))) (.ops [jk 110 6,eT 111 (r8 .add 110 1),jk 6 111])))
def jt:=mU.eq_1
def ahT:aC 27=some ⟨124,mn [rM 2 (Y1 20 0),rM 3 (Y1 20 1),eT 4 (tT (.B false))] (.Q (mn qj (.ds [2,3,67] (pZ 67 (mn [eT 4 (tT (.B false))] (DL [4]))))) (.Q (mn [eT 5 (tT (.I .i64 0))] (.block 0 (.L mT))) (.Q (mn [eT 6 (tT (.I .i64 0))] (.block 2 (.L mU))) (mn [eT 4 (tT (.B true))] (DL [4]))))),[.tmp 4]⟩:=(li Tryz.func27 rfl).trans (by kernel_rfl)
def aio:=(li Tryz.func28 rfl).trans (by cbv)
def Su:=(li Tryz.func29 rfl).trans (by cbv)
def we:List KO:=qM (aC 29) 1
def cg:=(by have h:=(jb Su 1).trans (by cbv);exact h:we=_)
def wg:List KO:=qM (aC 29) 3
def dc:=(by have h:=(jb Su 3).trans (by cbv);rewrite [<-ah.eq_1]at h;exact h:wg=_)
def aip:=(by have h:=Su;rewrite [<-ah.eq_1,<-cg,<-dc]at h;exact h:aC 29=_)
def aiq:=(li Tryz.func30 rfl).trans (by cbv)
def Xm:=(li Tryz.func31 rfl).trans (by cbv)
def rC:KC:=nY (aC 31) 0
def iy:=(by have h:=(gF Xm 0).trans (by cbv);exact h:rC=_)
def air:=(by have h:=Xm;rewrite [<-iy]at h;exact h:aC 31=_)
def ah9:=(li Tryz.func32 rfl).trans (by cbv)
def mc:KC:=.ds [1,3,4] (.Q (mn [jk 49 4,gS 50 18 1,gA 51 50,eT 52 (AQ 51),eT 53 (Gp .lss 49 52)] (.cond (.t 53) .skip (.ds [1,3] (.exit 0)))) (.Q (.block 1 (.draw [] [dS (jk 56 3) 0 1,dS (gS 57 18 1) 0 0,dS (gA 58 57) 0 0,dS (jk 59 4) 0 0,dS (eT 60 (Cd 12 58 59)) 0 0,dS (gS 61 0 60) 0 0,dS (rM 62 (sr 6 61)) 0 0,IC (rM 63 (Fc 71 [62])) 0 1,IC (rM 64 (Vv 1 56 63)) 1 2,dS (gS 65 18 1) 0 2,dS (gA 66 65) 0 2,dS (jk 67 4) 0 2,dS (eT 68 (Cd 12 66 67)) 0 2,dS (gS 69 6 68) 0 2,dS (rM 70 (sr 6 69)) 0 2,IC (rM 71 (Fc 71 [70])) 2 3,IC (rM 72 (Vv 1 64 71)) 3 4,dS (jk 3 72) 4 4])) (.ops [jk 54 4,eT 55 (r8 .add 54 1),jk 4 55])))
def iU:=mc.eq_1
def ais:aC 33=some ⟨84,mn [rM 1 (Y1 20 0),eT 2 (tT .ao)] (.Q (.draw [] [dS (gS 5 0 1) 0 1,dS (gA 6 5) 0 1,dS (eT 7 (q_W .u8 6)) 0 1,dS (rM 8 (.bsl 1 [.I .u8 0] 1 [(0,.t 7)])) 0 1,dS (gS 9 1 1) 0 0,dS (gA 10 9) 0 0,dS (rM 11 (.byt (.t 10))) 0 0,IC (rM 12 (Fc 74 [11])) 0 1,IC (rM 13 (Vv 1 8 12)) 1 2,dS (jk 3 13) 2 2]) (.Q (mn [gS 14 0 1,gA 15 14,rM 16 (Fc 75 [15])] (pZ 16 (.ops [jk 17 3,gS 18 2 1,gA 19 18,rM 20 (.byt (.t 19)),rM 21 (Fc 74 [20]),rM 22 (Vv 1 17 21),jk 3 22]))) (.Q (mn [gS 23 0 1,gA 24 23,rM 25 (Fc 76 [24])] (pZ 25 (.draw [] [dS (jk 26 3) 0 1,dS (gS 27 3 1) 0 0,dS (rM 28 (sr 3 27)) 0 0,IC (rM 29 (Fc 77 [28])) 0 1,IC (rM 30 (Vv 1 26 29)) 1 2,dS (gS 31 6 1) 0 2,dS (rM 32 (sr 6 31)) 0 2,IC (rM 33 (Fc 71 [32])) 2 3,IC (rM 34 (Vv 1 30 33)) 3 4,dS (jk 3 34) 4 4]))) (.Q (mn [gS 35 0 1,gA 36 35,eT 37 (r8 .eql 36 8)] (pZ 37 (.Q (.draw [] [dS (jk 38 3) 0 1,dS (gS 39 12 1) 0 0,dS (rM 40 (sr 6 39)) 0 0,IC (rM 41 (Fc 71 [40])) 0 1,IC (rM 42 (Vv 1 38 41)) 1 2,dS (gS 43 18 1) 0 2,dS (gA 44 43) 0 2,dS (eT 45 (AQ 44)) 0 2,dS (eT 46 (q_W .u8 45)) 0 2,dS (rM 47 (.bsl 1 [.I .u8 0] 1 [(0,.t 46)])) 0 2,IC (rM 48 (Vv 1 42 47)) 2 3,dS (jk 3 48) 3 3]) (mn [eT 4 (tT (.I .i64 0))] (.block 0 (.L mc)))))) (.Q (mn [gS 73 0 1,gA 74 73,eT 75 (r8 .gtr 74 8)] (pZ 75 (.ops [jk 76 3,gS 77 19 1,gA 78 77,eT 79 (.ixL 20 (.t 78) (q_i 0)),rM 80 (sr 20 79),rM 81 (Fc 33 [80]),rM 82 (Vv 1 76 81),jk 3 82]))) (mn [jk 83 3,jk 2 83] (DL [2]))))))),[.tmp 2]⟩:=(li Tryz.func33 rfl).trans (by kernel_rfl)
def Xq:=(li Tryz.func35 rfl).trans (by cbv)
def Lu:List KO:=qM (aC 35) 1
def mO:=(by have h:=(jb Xq 1).trans (by cbv);exact h:Lu=_)
def ahP:=(by have h:=Xq;rewrite [<-mO]at h;exact h:aC 35=_)
def Xr:=(li Tryz.func36 rfl).trans (by cbv)
def GH:List KO:=qM (aC 36) 1
def gN:=(by have h:=(jb Xr 1).trans (by cbv);exact h:GH=_)
def ahO:=(by have h:=Xr;rewrite [<-gN]at h;exact h:aC 36=_)
def ait:=(li Tryz.func37 rfl).trans (by cbv)
def Xs:=(li Tryz.func38 rfl).trans (by cbv)
def pG:KC:=nY (aC 38) 0
def gJ:=(by have h:=(gF Xs 0).trans (by cbv);exact h:pG=_)
def aiu:=(by have h:=Xs;rewrite [<-gJ]at h;exact h:aC 38=_)
def aiv:=(li Tryz.func39 rfl).trans (by cbv)
def Xt:=(li Tryz.func40 rfl).trans (by cbv)
def sb:KC:=nY (aC 40) 0
def fC:=(by have h:=(gF Xt 0).trans (by cbv);exact h:sb=_)
def aiw:=(by have h:=Xt;rewrite [<-yJ.eq_1,<-fC]at h;exact h:aC 40=_)
def aix:=(li Tryz.func41 rfl).trans (by cbv)
def aet:=(li Tryz.func42 rfl).trans (by cbv)
def aiy:=(by have h:=aet;rewrite [<-cC.eq_1]at h;exact h:aC 42=_)
def aeu:=(li Tryz.func43 rfl).trans (by cbv)
def aev:=(by have h:=aeu;rewrite [<-cC.eq_1]at h;exact h:aC 43=_)
def aew:=(li Tryz.func44 rfl).trans (by cbv)
def Xu:=(li Tryz.func45 rfl).trans (by cbv)
def lY:KC:=nY (aC 45) 0
def ff:=(by have h:=(gF Xu 0).trans (by cbv);exact h:lY=_)
def ahV:=(by have h:=Xu;rewrite [<-ff]at h;exact h:aC 45=_)
def ahX:=(li Tryz.func46 rfl).trans (by cbv)
def Lv:=(li Tryz.func47 rfl).trans (by cbv)
def xm:List KO:=qM (aC 47) 1
def cn:=(by have h:=(jb Lv 1).trans (by cbv);exact h:xm=_)
def xn:List KO:=qM (aC 47) 5
def fT:=(by have h:=(jb Lv 5).trans (by cbv);exact h:xn=_)
def mW:KC:=nY (aC 47) 0
def dJ:=(by have h:=(gF Lv 0).trans (by cbv);rewrite [<-fT]at h;exact h:mW=_)
def mX:KC:=nY (aC 47) 1
def eI:=(by have h:=(gF Lv 1).trans (by cbv);exact h:mX=_)
def ahZ:=(by have h:=Lv;rewrite [<-cn,<-fT,<-dJ,<-eI]at h;exact h:aC 47=_)
def aex:=(li Tryz.func48 rfl).trans (by cbv)
def aiz:=(by have h:=aex;rewrite [<-cC.eq_1]at h;exact h:aC 48=_)
def aiA:=(li Tryz.func52 rfl).trans (by cbv)
def OH:=(li Tryz.func53 rfl).trans (by cbv)
def Jb:List KO:=qM (aC 53) 6
def yK:=(by have h:=(jb OH 6).trans (by cbv);exact h:Jb=_)
def Jc:List KO:=qM (aC 53) 8
def yL:=(by have h:=(jb OH 8).trans (by cbv);exact h:Jc=_)
def Jd:List KO:=qM (aC 53) 12
def yM:=(by have h:=(jb OH 12).trans (by cbv);exact h:Jd=_)
def aiB:=(by have h:=OH;rewrite [<-ah.eq_1,<-yK,<-yL,<-yM]at h;exact h:aC 53=_)
def aiC:=(li Tryz.func54 rfl).trans (by cbv)
def aiD:=(li Tryz.func55 rfl).trans (by cbv)
def aiE:=(li Tryz.func56 rfl).trans (by cbv)
def ah4:=(li Tryz.func57 rfl).trans (by cbv)
def ah3:=(li Tryz.func58 rfl).trans (by cbv)
def aey:=(li Tryz.func59 rfl).trans (by cbv)
def aiF:=(by have h:=aey;rewrite [<-cC.eq_1]at h;exact h:aC 59=_)
def SU:=(li Tryz.func60 rfl).trans (by cbv)
def yO:KC:=nY (aC 60) 0
def lE:=(by have h:=(gF SU 0).trans (by cbv);rewrite [<-kI.eq_1,<-ah.eq_1]at h;exact h:yO=_)
def yQ:KC:=nY (aC 60) 1
def ib:=(by have h:=(gF SU 1).trans (by cbv);rewrite [<-ab.eq_1]at h;exact h:yQ=_)
def aiG:=(by have h:=SU;rewrite [<-ab.eq_1,<-kI.eq_1,<-ah.eq_1,<-lE,<-ib]at h;exact h:aC 60=_)
def Xv:=(li Tryz.func62 rfl).trans (by cbv)
def qa:KC:=nY (aC 62) 0
def hE:=(by have h:=(gF Xv 0).trans (by cbv);exact h:qa=_)
def ahQ:=(by have h:=Xv;rewrite [<-hE]at h;exact h:aC 62=_)
def Lw:=(li Tryz.func63 rfl).trans (by cbv)
def xo:List KO:=qM (aC 63) 1
def dI:=(by have h:=(jb Lw 1).trans (by cbv);exact h:xo=_)
def qd:KC:=nY (aC 63) 0
def hO:=(by have h:=(gF Lw 0).trans (by cbv);exact h:qd=_)
def qe:KC:=nY (aC 63) 1
def hW:=(by have h:=(gF Lw 1).trans (by cbv);exact h:qe=_)
def qf:KC:=nY (aC 63) 2
def hX:=(by have h:=(gF Lw 2).trans (by cbv);exact h:qf=_)
def ahS:=(by have h:=Lw;rewrite [<-dI,<-hO,<-hW,<-hX]at h;exact h:aC 63=_)
def OI:=(li Tryz.func64 rfl).trans (by cbv)
def xp:List KO:=qM (aC 64) 1
def hM:=(by have h:=(jb OI 1).trans (by cbv);exact h:xp=_)
def qb:KC:=nY (aC 64) 0
def hH:=(by have h:=(gF OI 0).trans (by cbv);exact h:qb=_)
def qc:KC:=nY (aC 64) 1
def hJ:=(by have h:=(gF OI 1).trans (by cbv);exact h:qc=_)
def ahR:=(by have h:=OI;rewrite [<-hM,<-hH,<-hJ]at h;exact h:aC 64=_)
def aiH:=(li Tryz.func65 rfl).trans (by cbv)
end
end Go.Proofs.YtnhnmkgfgfmmhaaGreatDoor.am
