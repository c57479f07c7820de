/- Parts. No condition. -/
import Derived.Test.YtiaklhkdbokkhaaGreatProg
import Derived.KernelRfl
import Derived.Test.YtiaklhkdbokkhaaGreatQF
import Derived.Test.YtiaklhkdbokkhaaGreatQD
set_option linter.all false
namespace Go.Proofs.YtiaklhkdbokkhaaGreat.am
open Go
open Option renaming some->J,none->M
open Bool renaming false->O,true->G
open Go.IntKind renaming i64->Y,u64->U
open Decidable renaming decide->b_
open Go renaming FuncId->eS
open Go.Proofs.YtiaklhkdbokkhaaGreat.am renaming bm->H
noncomputable section
def nts:List (Option Nts):=[M,M,M,J [(8,[6]),(26,[6])],J [(4,[2]),(4,[2])],J [(6,[0]),(6,[0])],J [(12,[4,5]),(22,[4,5])],J [(8,[2]),(14,[2])],J [(4,[2]),(4,[2])],J [(4,[2])],J [(4,[2])],J [(8,[2,3]),(18,[2,3]),(22,[2,3])],J [(6,[2])],J [(15,[1,4,23,24,25]),(20,[1,4]),(45,[2,3])],J [(20,[4])],J [(8,[2,3]),(42,[2,3]),(46,[2,3])],J [(6,[2])],J [(12,[6]),(18,[6])],J [(4,[2])],J [(9,[2,3,4,7,8,9]),(14,[2,3,7,8]),(27,[6]),(33,[6])],J [(11,[1,3,4]),(16,[1,3]),(31,[2])],J [(8,[2]),(15,[0,3]),(20,[]),(28,[2]),(33,[2])],J [(4,[2])],J [(5,[1,2,47]),(8,[4]),(15,[1,2,5]),(20,[1,2]),(25,[1,2,5,70]),(28,[4]),(36,[1,2,6]),(41,[]),(49,[4]),(54,[4])],J [(8,[2]),(19,[2]),(25,[2]),(29,[2])],J [(12,[2,3])],J [(4,[0])],J [(11,[3,4,5,6,7]),(16,[4,6]),(24,[3,4,5,6,7,15]),(29,[3,4,5,6,7]),(38,[4])],J [(14,[2])],J [],J [],J [(3,[0,1]),(8,[0,1])],J [(8,[2,3]),(21,[2,3]),(36,[2,3]),(40,[2,3])],J [(8,[2,3]),(15,[1,4]),(25,[2,3]),(30,[1]),(49,[2,3]),(53,[2,3])],J [(4,[2])],J [(4,[6])],J [(6,[6])],J [(4,[2])],J [(8,[2])],J [(2,[0,1,16])],J [(8,[2])],J [(17,[0,3,4,5]),(22,[4]),(35,[2])],J [(93,[2]),(97,[2])],J [(4,[2])],J [(8,[4])],J [(5,[0,16]),(8,[2]),(12,[2])],J [(12,[4])],J [(12,[2,3]),(28,[2,3]),(38,[2,3])],J [(4,[2])],J [(4,[6])],J [(4,[2])],J [(7,[1,3]),(12,[1]),(20,[2]),(29,[2]),(37,[2]),(41,[2]),(41,[2])],J [(4,[2])],J [(2,[1,2]),(4,[1,2,4]),(6,[1,2,4]),(9,[1,2,4,21]),(12,[2,3]),(14,[1,2,4]),(16,[2,4,5]),(18,[2,4,5,6]),(20,[2,4,5,6,7]),(22,[2,4,5,6,8,9]),(25,[2,4,5,6,8,50]),(28,[2,3]),(30,[2,4,5,6,8]),(36,[2,5,6,8]),(38,[2,3])],J [(4,[2])],J [(4,[2])],J [(14,[2])],J [(2,[3,4,5,6]),(4,[3,4,5,6,7]),(6,[3,4,5,6,7,8,9]),(8,[3,4,5,6,7,8,9,10]),(10,[5,6,7,8,9,10,11]),(12,[5,6,7,8,9,10,11,12]),(14,[6,7,10,11,12,13]),(16,[6,7,10,11,14,15]),(18,[6])],J [(11,[2,3,4,5,6,7]),(16,[4,6]),(29,[4])],J [(8,[0])],J [(4,[2])],J [(4,[0])],J [(24,[2])],J [(26,[1,3,4]),(31,[1,3]),(45,[2])],J [(10,[6]),(17,[1,2,3,7]),(22,[1]),(29,[6])],J [(4,[2])],J [(7,[0,3]),(12,[]),(20,[2]),(25,[2])],J [(8,[2]),(21,[2]),(21,[2]),(27,[2]),(27,[2]),(33,[2]),(39,[2]),(39,[2]),(43,[2])],J [(4,[4]),(4,[4])],J [(4,[2])],J [(4,[4]),(4,[4])],J [(9,[2,3,11,12,13]),(14,[2,3]),(28,[2,3,6,7]),(33,[2,6]),(45,[2,8,36,37]),(50,[2,8]),(59,[2])],J [(4,[4])],J [(9,[1,2,3,5]),(14,[2,3]),(23,[2])],J [(11,[1,2,3,4]),(16,[2,3]),(23,[2])],J [(4,[0])],J [(12,[2])],J [(14,[4])],J [(4,[2])],J [(9,[3,4,5,20,21]),(14,[4,5]),(23,[3,4,5,6,7,20,21,26,27]),(28,[3,4,5,20,21]),(49,[4,5,10,11,64]),(54,[4,10,11]),(79,[4])],J [(9,[2,3,10,11]),(14,[2,3]),(23,[2,3,4,5,6,10,11]),(28,[2,3,10,11]),(38,[2])],J [(4,[2])],J [(8,[2,3]),(22,[2,3]),(26,[2,3])],J [],J [(19,[2,3]),(29,[2,3]),(39,[2,3]),(45,[2,3]),(55,[2,3]),(59,[2,3])],J [(8,[2])],J [(36,[0,3,63,64,65]),(41,[0,3]),(53,[0,78,79,80]),(58,[])],J [(4,[2])],J [(4,[2])],J [(9,[3,4,5,14,15]),(14,[4,5]),(26,[3,4,5,6,7,8,14,15,19,20]),(31,[3,4,5,6,8,14,15]),(50,[4])],J [(11,[0,2,3,4,5]),(16,[2,3]),(31,[2])],J [(9,[2,3,4,5,9]),(14,[2,4]),(29,[4]),(33,[4])],J [(9,[1,2,3,5]),(14,[2,3]),(23,[2])],J [(4,[]),(14,[])],J [(8,[3,4]),(14,[3,4])],J [(8,[4]),(12,[4])],J [(8,[4])],J [(8,[2]),(12,[2])],J [(17,[0,3,4,5]),(22,[0,4]),(33,[2]),(37,[2])],J [(4,[2])],J [(24,[4]),(45,[0,1,4,5,6,8,59]),(68,[4]),(72,[4])],J [(10,[4,5]),(16,[4,5])],J [(7,[5,6,7]),(12,[]),(22,[2]),(27,[2])],J [(4,[2])],J [(4,[2])],J [(17,[4,5]),(28,[4,5]),(37,[4,5])],J [(7,[2,3,4,6]),(12,[2,4]),(25,[4])],J [(4,[0])],J [(7,[2,3,4,6]),(12,[2,4]),(21,[4])],J [(4,[2])],J [(4,[2])],J [(7,[2,3,5]),(12,[]),(20,[4]),(25,[4])],J [(5,[1,16]),(8,[2]),(13,[1,38]),(16,[2]),(27,[2]),(33,[2]),(37,[2])],J [(5,[2,3,67]),(8,[4]),(15,[2,3,5]),(20,[2,3]),(25,[2,3,5,104]),(28,[4]),(36,[2,3,6]),(41,[]),(49,[4]),(54,[4])],J [(4,[2])],J [(4,[4]),(4,[4])],J [(7,[2,3,5]),(12,[]),(20,[4]),(25,[4])],J [(9,[1,2,3,4]),(14,[2,3]),(21,[2])],J [(4,[0])],J [(4,[0])],J [(6,[2])],J [(4,[2])],J [(9,[2,3,4,5,6]),(14,[4,5]),(24,[2,3,4,5,6,7,8]),(29,[2,3,4,5,6,7]),(49,[4,5,10,11,12]),(54,[4,10,11]),(66,[4,10,11]),(71,[4,10]),(82,[4,10,14,15]),(87,[4,10,14]),(99,[4])],J [(2,[2,3,4]),(5,[2,3,4,14]),(8,[4,5]),(10,[2,3,4]),(12,[4,6]),(14,[4,6,7]),(16,[4,6,7]),(18,[4,6,8]),(21,[4,6,8,34]),(24,[4,6,8,9]),(26,[4,6,8,11]),(28,[4,6,8]),(31,[4,8,53]),(34,[4,5]),(36,[4,8]),(42,[4,8]),(44,[4,5])],J [(10,[4]),(16,[4])],J [(11,[2,3,4,5,6,7]),(16,[4,5]),(27,[4])],J [(15,[0,1,2,8]),(20,[]),(28,[6]),(33,[6])],J [(9,[0,3,4]),(14,[3]),(21,[2])],J [(4,[0])],J [(4,[2])],J [(8,[2])],J [(6,[2])],J [(9,[1,2,3,4]),(14,[2,3]),(21,[2])],J [(4,[2])],J [(9,[0,3,4]),(14,[3]),(27,[2])],J [(8,[2]),(12,[2])],J [(4,[2])],J [(13,[2]),(19,[2]),(29,[2]),(38,[1,3,4]),(43,[3]),(56,[2])],J [(4,[2])],J [(4,[2])],J [(4,[2])],J [(15,[1,3,4]),(20,[1,3]),(39,[2])],J [(10,[6]),(17,[1,2,3,7]),(22,[1,2,3]),(30,[6]),(38,[1,2,3,8]),(43,[1]),(50,[6])],J [(4,[4])],J [(4,[2])],J [(4,[4]),(4,[4])],J [(4,[2])],J [(4,[4]),(4,[4])],J [(8,[6]),(15,[1,2,15,16,17]),(20,[]),(32,[6]),(37,[6])],J [(4,[4])],J [(8,[6]),(15,[1,2,15,16,17]),(20,[]),(32,[6]),(37,[6])],J [(8,[1,2,5,13]),(11,[4]),(17,[4]),(23,[4]),(29,[4]),(35,[4]),(35,[4]),(39,[4])],J [(8,[4]),(15,[0,1,12,13]),(20,[]),(30,[4]),(35,[4])],M,J [(4,[0])],J [(4,[0])],J [(9,[1,2,3,6,7,18]),(14,[2,3,6,7]),(38,[2,3,6,7,11,72]),(43,[3,6,11]),(61,[3,6,11,156]),(66,[3,6]),(75,[6])],J [(4,[0,1,4]),(9,[])],J [(9,[1,2,5,6]),(14,[1,5]),(27,[4])],J [(4,[0])],J [(9,[1,2,4,5,6]),(14,[4,5]),(27,[4])],J [(4,[2])],J [(10,[6])],M,J [(24,[4,5])],J [(9,[1,2,3,8,9]),(14,[1,2,3]),(26,[1,2,3,18]),(31,[1,2]),(46,[2])],J [(11,[1,2,3,11,12]),(16,[1,2,3]),(30,[1,2,6]),(35,[1,2]),(46,[2])],J [(29,[0,3,40,41,42]),(34,[])],J [(4,[]),(12,[0,14,15,16]),(17,[])],J [(8,[2,3]),(22,[2,3]),(26,[2,3])],J [],J [(4,[0,8,9,10]),(9,[])],J [(9,[3,10,11,12]),(14,[3]),(23,[2])],J [(4,[0])],J [(7,[1,2,4,7,8]),(12,[2,4]),(23,[4])],J [(9,[2,3,4,6,8]),(14,[2,4,6]),(23,[4,5])],J [(10,[4,5]),(16,[4,5])],J [(9,[5,8,9,10]),(14,[]),(22,[5,6,7,8,9,10,24]),(23,[]),(37,[]),(41,[2,3,4]),(45,[2,3,4])],J [(18,[2])],J [(16,[4]),(58,[0,1,4,5,51,52]),(63,[0,4,5]),(92,[4]),(96,[4])],J [(12,[4])],J [(4,[3])],J [(4,[4])],J [(4,[2])],J [(4,[2])],J [(12,[4])],J [(14,[0,1,2,6,7]),(19,[])],J [(4,[2])],J [(4,[4])],J [(4,[0])],J [(7,[0,3]),(12,[0]),(17,[0,3,4]),(19,[0,3,4,5]),(24,[2]),(29,[2])],J [(4,[2])],J [(5,[2,3,53]),(8,[4]),(15,[2,3,5]),(20,[2,3]),(28,[4]),(36,[2,3,6]),(41,[2,3]),(49,[4]),(57,[2,3,7]),(62,[]),(70,[4]),(75,[4])],J [(5,[2,3,29]),(8,[4]),(15,[2,3,5]),(20,[2,3]),(28,[4]),(36,[2,3,6]),(41,[]),(49,[4]),(54,[4])],J [(9,[1,3,4]),(14,[3]),(27,[2])],J [(7,[1,3,18]),(10,[2]),(15,[1,3,43]),(18,[2]),(23,[1,3,72]),(26,[2]),(31,[1,3,87]),(34,[2]),(43,[1,3,105]),(46,[2]),(52,[1,3,4]),(57,[1,3]),(62,[1,3,4,132]),(65,[2]),(75,[2]),(79,[2])],J [(8,[4]),(15,[0,1,5]),(20,[]),(28,[4]),(33,[4])],J [(5,[1,2]),(10,[1,2]),(15,[2])],J [(9,[2,3,4,5,6]),(14,[4,5]),(27,[4])],J [(7,[1,2,4,5]),(12,[2,4]),(21,[1,2,4,5,6,7]),(26,[1,2,4,5]),(38,[4])],J [(11,[2,3,4,6,7,8]),(16,[4,6,7]),(27,[4,5])],J [(8,[4]),(12,[4])],J [(9,[0,2,3,4]),(14,[2,3]),(21,[2])],J [(9,[3,4]),(14,[3]),(19,[3,4]),(24,[3,4]),(32,[3,4,5,6]),(37,[3,4]),(57,[2])],J [(9,[1,2,5,6]),(14,[1,2,5,6]),(24,[2,5,6,7,8]),(29,[2,5,6]),(43,[2,5,6,9]),(48,[2,9]),(60,[2,9,10,11]),(65,[10]),(72,[2,9,10,11,12]),(77,[2,9,10,11]),(85,[4])],J [(4,[0])],J [(8,[2]),(12,[2])],J [(7,[0,1,9,10,11]),(12,[0,1]),(23,[4]),(34,[4]),(43,[4]),(47,[4])],J [(4,[4])],J [(4,[2])],J [(8,[2]),(12,[2])],J [(8,[4]),(15,[0,1,12,13]),(20,[]),(30,[4]),(35,[4])],J [(8,[4]),(15,[0,1,12,13]),(20,[]),(30,[4]),(35,[4])],J [(8,[6]),(15,[1,2,15,16,17]),(20,[]),(32,[6]),(37,[6])],J [(4,[4]),(4,[4])],J [(8,[6]),(15,[1,2,15,16,17]),(20,[]),(32,[6]),(37,[6])],J [(6,[2])],J [(4,[4]),(4,[4])],J [(4,[2]),(4,[2])],J [(4,[2]),(4,[2])],J [(9,[3,6,7,8]),(14,[3]),(23,[2])],J [(4,[4])],J [],J [],J [(4,[2])],J [(15,[0,3,26,27,28]),(20,[0,3])],J [],M,J [(4,[4])],J [(8,[2])],J [(6,[2])],J [(12,[2])],J [(12,[4]),(16,[4])],J [(7,[0,5,6,7]),(12,[0]),(19,[0,5,6,7,27]),(22,[2]),(27,[2])],J [(7,[0,5,6,7]),(12,[0]),(22,[2]),(27,[2])],J [(5,[2,3,38]),(8,[4]),(15,[3,40,41,42]),(20,[]),(38,[4]),(43,[4])],J [(16,[4]),(41,[0,4,5,29,30]),(46,[0,4,5]),(58,[0,1,4,5,38,39]),(63,[0,4,5]),(81,[4]),(85,[4])],J [(4,[2])],J [(7,[0,3]),(12,[0]),(19,[0,3,32]),(22,[2]),(27,[2])],J [(9,[1,3,4]),(14,[3]),(27,[2])],J [(7,[1,3,61]),(10,[2]),(15,[1,118]),(18,[2]),(25,[1,4]),(30,[1]),(35,[1,4,150]),(38,[2]),(46,[1,5]),(51,[1]),(59,[1,5,6]),(64,[1,5]),(72,[2]),(80,[2]),(88,[1,7]),(93,[]),(101,[2]),(106,[2])],J [(4,[4])],J [(4,[2])],J [(9,[1,2,3,7,8]),(14,[1,3,7]),(27,[1,2,3,7,8,9,10]),(32,[1,2,3,7,8,9]),(47,[1,3,7,11,12]),(52,[1,3,11]),(68,[1,3,11,15,16]),(73,[15]),(80,[6])],J [(16,[4]),(20,[4]),(28,[4]),(36,[4]),(44,[4]),(48,[4])],J [(7,[0,1,7,8]),(12,[]),(22,[4]),(27,[4])],J [(4,[1,3]),(13,[2]),(13,[2]),(19,[2]),(25,[2]),(25,[2]),(31,[2]),(31,[2]),(37,[2]),(37,[2]),(43,[2]),(43,[2]),(47,[2])],J [(4,[4])],J [(4,[3])],J [(4,[4])],J [(4,[2]),(4,[2])],J [(4,[4])],J [(4,[3]),(4,[3])],J [(6,[4])],J [(4,[4]),(4,[4])],J [(8,[4])],J [(8,[3,4]),(14,[3,4])],J [(4,[4])],J [(4,[4])],J [(11,[4]),(19,[4]),(27,[4])],J [(6,[0,30])],J [(7,[0,5,6,7]),(12,[]),(22,[2]),(27,[2])],J [(4,[2])],J [(4,[2])],J [(8,[4]),(19,[2,3,5]),(24,[]),(32,[4]),(37,[4]),(49,[4]),(55,[2,3,6]),(60,[2,3]),(65,[2,3,6,72]),(68,[4]),(80,[2,3,7]),(85,[]),(93,[4]),(99,[4])],J [(4,[6])],J [(4,[6])],J [(4,[2])],J [(7,[0,1,7,8]),(12,[]),(22,[4]),(27,[4])],J [(7,[1,2,10]),(12,[]),(21,[6]),(25,[6])],J [(7,[0,1,7,8]),(12,[]),(22,[4]),(27,[4])],J [(19,[2]),(25,[2]),(25,[2]),(31,[2]),(31,[2]),(37,[2]),(41,[2])],J [(4,[4])],J [(4,[3])],J [(11,[4,5]),(17,[4,5]),(23,[4,5]),(29,[4,5])],J [(7,[0,1,7,8]),(12,[]),(22,[4]),(27,[4])],J [(7,[0,1,7,8]),(12,[]),(22,[4]),(27,[4])],J [(7,[0,3]),(12,[]),(20,[2]),(25,[2])],J [(9,[1,3,4]),(14,[3]),(27,[2])],J [(5,[1,47]),(8,[2]),(30,[2]),(37,[1,4]),(42,[1]),(51,[2]),(57,[1,4,5]),(62,[1,4]),(67,[1,4,5,109]),(70,[2]),(79,[1,6]),(84,[]),(92,[2]),(97,[2])],J [(4,[6])],J [(4,[2])],J [(7,[0,1,7,8]),(12,[]),(22,[4]),(27,[4])],J [(4,[4]),(4,[4])],J [(4,[4])],J [(4,[2])],J [(4,[2])],J [(7,[0,1,7,8]),(12,[]),(22,[4]),(27,[4])]]
def ay(f:eS):Option KF:=(nts[f]?).join.bind λs=>(Tryz.prog.funcs[f]?).bind λfn=>kfm Tryz.prog fn s
def ara(f:eS)(k:KF)(h:ay f=J k):∃fn,Tryz.prog.funcs[f]? =J fn/\KOK Tryz.prog fn k:=by
 unfold ay at h;have⟨s,_,h⟩:=Iw.1 h
 grind [Option.bind_eq_some_iff,ap0]
def li{f:eS}{fn:Func}{s:Nts}(h:Tryz.prog.funcs[f]? =J fn)(g:(nts[f]?).join=J s):ay f=kfm Tryz.prog fn s:=by
 unfold ay
 grind
end
noncomputable section
set_option maxRecDepth 100000
set_option maxHeartbeats 0
def aEx:=(li Tryz.func3 rfl).trans (by cbv)
def e_3:=(by have h:=aEx;rewrite [<-cb.eq_1,<-fX.eq_1]at h;exact h:ay 3=_)
def axa:=(li Tryz.func4 rfl).trans (by cbv)
def CH:List KO:=yc (ay 4) 1
def mB:=(by have h:=(nh axa 1).trans (by cbv);exact h:CH=_)
def e_4:=(by have h:=axa;rewrite [<-mB]at h;exact h:ay 4=_)
def axb:=(li Tryz.func5 rfl).trans (by cbv)
def CI:List KO:=yc (ay 5) 2
def Bd:=(by have h:=(nh axb 2).trans (by cbv);rewrite [<-fX.eq_1]at h;exact h:CI=_)
def e_5:=(by have h:=axb;rewrite [<-cb.eq_1,<-fX.eq_1,<-aR.eq_1,<-Bd]at h;exact h:ay 5=_)
def aEy:=(li Tryz.func6 rfl).trans (by cbv)
def e_6:=(by have h:=aEy;rewrite [<-cb.eq_1,<-fX.eq_1]at h;exact h:ay 6=_)
def e_7:=(li Tryz.func7 rfl).trans (by cbv)
def axc:=(li Tryz.func8 rfl).trans (by cbv)
def BU:List KD:=dwK (ay 8) 0
def oi:=(by have h:=(ap1 axc 0).trans (by cbv);exact h:BU=_)
def e_8:=(by have h:=axc;rewrite [<-oi]at h;exact h:ay 8=_)
def e_9:=(li Tryz.func9 rfl).trans (by cbv)
def aEt:=(li Tryz.func10 rfl).trans (by cbv)
def aDj:=(li Tryz.func11 rfl).trans (by cbv)
def axd:=(li Tryz.func12 rfl).trans (by cbv)
def aEz:=(by have h:=axd;rewrite [<-aP.eq_1]at h;exact h:ay 12=_)
def an5:=(li Tryz.func13 rfl).trans (by cbv)
def Ft:KC:=kQ (ay 13) 0
def ky:=(by have h:=(dP an5 0).trans (by cbv);rewrite [<-aP.eq_1]at h;exact h:Ft=_)
def avT:=(by have h:=an5;rewrite [<-aP.eq_1,<-fX.eq_1,<-ky]at h;exact h:ay 13=_)
def axe:=(li Tryz.func14 rfl).trans (by cbv)
def aEA:=(by have h:=axe;rewrite [<-bR.eq_1,<-aP.eq_1]at h;exact h:ay 14=_)
def axf:=(li Tryz.func15 rfl).trans (by cbv)
def avV:=(by have h:=axf;rewrite [<-cb.eq_1,<-fX.eq_1]at h;exact h:ay 15=_)
def axg:=(li Tryz.func16 rfl).trans (by cbv)
def aDk:=(by have h:=axg;rewrite [<-fX.eq_1]at h;exact h:ay 16=_)
def axh:=(li Tryz.func17 rfl).trans (by cbv)
def aEB:=(by have h:=axh;rewrite [<-eQ.eq_1]at h;exact h:ay 17=_)
def aDr:=(li Tryz.func18 rfl).trans (by cbv)
def an6:=(li Tryz.func19 rfl).trans (by cbv)
def tX:KC:=kQ (ay 19) 0
def fJ:=(by have h:=(dP an6 0).trans (by cbv);exact h:tX=_)
def aEC:=(by have h:=an6;rewrite [<-aP.eq_1,<-fN.eq_1,<-fJ]at h;exact h:ay 19=_)
def an7:=(li Tryz.func20 rfl).trans (by cbv)
def vU:KC:=kQ (ay 20) 0
def iQ:=(by have h:=(dP an7 0).trans (by cbv);rewrite [<-aP.eq_1]at h;exact h:vU=_)
def aDp:=(by have h:=an7;rewrite [<-aP.eq_1,<-iQ]at h;exact h:ay 20=_)
def an8:=(li Tryz.func21 rfl).trans (by cbv)
def qh:KC:=kQ (ay 21) 0
def im:=(by have h:=(dP an8 0).trans (by cbv);exact h:qh=_)
def aEo:=(by have h:=an8;rewrite [<-im]at h;exact h:ay 21=_)
def aEq:=(li Tryz.func22 rfl).trans (by cbv)
def Xl:=(li Tryz.func23 rfl).trans (by cbv)
def D2:List KO:=yc (ay 23) 1
def cY:=(by have h:=(nh Xl 1).trans (by cbv);exact h:D2=_)
def D3:List KO:=yc (ay 23) 5
def iS:=(by have h:=(nh Xl 5).trans (by cbv);exact h:D3=_)
def q9:KC:=kQ (ay 23) 0
def fj:=(by have h:=(dP Xl 0).trans (by cbv);rewrite [<-iS]at h;exact h:q9=_)
def q_:KC:=kQ (ay 23) 1
def gF:=(by have h:=(dP Xl 1).trans (by cbv);exact h:q_=_)
def aEs:=(by have h:=Xl;rewrite [<-cY,<-iS,<-fj,<-gF]at h;exact h:ay 23=_)
def axi:=(li Tryz.func24 rfl).trans (by cbv)
def aDc:=(by have h:=axi;rewrite [<-aE.eq_1,<-aR.eq_1]at h;exact h:ay 24=_)
def axj:=(li Tryz.func25 rfl).trans (by cbv)
def aED:=(by have h:=axj;rewrite [<-bR.eq_1,<-aP.eq_1]at h;exact h:ay 25=_)
def axk:=(li Tryz.func26 rfl).trans (by cbv)
def aC1:=(by have h:=axk;rewrite [<-aP.eq_1,<-eQ.eq_1]at h;exact h:ay 26=_)
def agU:=(li Tryz.func27 rfl).trans (by cbv)
def yH:KC:=kQ (ay 27) 0
def jH:=(by have h:=(dP agU 0).trans (by cbv);exact h:yH=_)
def yI:KC:=kQ (ay 27) 1
def lY:=(by have h:=(dP agU 1).trans (by cbv);rewrite [<-jH]at h;exact h:yI=_)
def aC8:=(by have h:=agU;rewrite [<-nK.eq_1,<-eQ.eq_1,<-jH,<-lY]at h;exact h:ay 27=_)
def axl:=(li Tryz.func28 rfl).trans (by cbv)
def aC3:=(by have h:=axl;rewrite [<-aP.eq_1,<-gU.eq_1]at h;exact h:ay 28=_)
def aEE:=(li Tryz.func29 rfl).trans (by cbv)
def avS:=(li Tryz.func30 rfl).trans (by cbv)
def an9:=(li Tryz.func31 rfl).trans (by cbv)
def uU:KC:=kQ (ay 31) 0
def mC:=(by have h:=(dP an9 0).trans (by cbv);exact h:uU=_)
def aEF:=(by have h:=an9;rewrite [<-mC]at h;exact h:ay 31=_)
def axm:=(li Tryz.func32 rfl).trans (by cbv)
def aEG:=(by have h:=axm;rewrite [<-fX.eq_1]at h;exact h:ay 32=_)
def an_:=(li Tryz.func33 rfl).trans (by cbv)
def yo:KC:=kQ (ay 33) 0
def iM:=(by have h:=(dP an_ 0).trans (by cbv);rewrite [<-aE.eq_1]at h;exact h:yo=_)
def aEH:=(by have h:=an_;rewrite [<-aE.eq_1,<-iM]at h;exact h:ay 33=_)
def aEI:=(li Tryz.func34 rfl).trans (by cbv)
def axn:=(li Tryz.func35 rfl).trans (by cbv)
def aEJ:=(by have h:=axn;rewrite [<-aP.eq_1]at h;exact h:ay 35=_)
def axo:=(li Tryz.func36 rfl).trans (by cbv)
def aEK:=(by have h:=axo;rewrite [<-aP.eq_1]at h;exact h:ay 36=_)
def aEL:=(li Tryz.func37 rfl).trans (by cbv)
def aEM:=(li Tryz.func38 rfl).trans (by cbv)
def aoa:=(li Tryz.func39 rfl).trans (by cbv)
def FQ:List KO:=yc (ay 39) 0
def qj:=(by have h:=(nh aoa 0).trans (by cbv);rewrite [<-fX.eq_1]at h;exact h:FQ=_)
def aEN:=(by have h:=aoa;rewrite [<-fX.eq_1,<-qj]at h;exact h:ay 39=_)
def axp:=(li Tryz.func40 rfl).trans (by cbv)
def aDl:=(by have h:=axp;rewrite [<-aP.eq_1]at h;exact h:ay 40=_)
def aob:=(li Tryz.func41 rfl).trans (by cbv)
def Az:KC:=kQ (ay 41) 0
def nj:=(by have h:=(dP aob 0).trans (by cbv);rewrite [<-aP.eq_1,<-fX.eq_1]at h;exact h:Az=_)
def aDm:=(by have h:=aob;rewrite [<-aP.eq_1,<-fX.eq_1,<-nj]at h;exact h:ay 41=_)
def axq:=(li Tryz.func42 rfl).trans (by cbv)
def aEO:=(by have h:=axq;rewrite [<-fX.eq_1,<-aR.eq_1]at h;exact h:ay 42=_)
def axr:=(li Tryz.func43 rfl).trans (by cbv)
def aEP:=(by have h:=axr;rewrite [<-aE.eq_1]at h;exact h:ay 43=_)
def aEQ:=(li Tryz.func44 rfl).trans (by cbv)
def aoc:=(li Tryz.func45 rfl).trans (by cbv)
def Hd:List KD:=dwK (ay 45) 0
def n_:=(by have h:=(ap1 aoc 0).trans (by cbv);exact h:Hd=_)
def aER:=(by have h:=aoc;rewrite [<-n_]at h;exact h:ay 45=_)
def axs:=(li Tryz.func46 rfl).trans (by cbv)
def aES:=(by have h:=axs;rewrite [<-aP.eq_1]at h;exact h:ay 46=_)
def axt:=(li Tryz.func47 rfl).trans (by cbv)
def aEd:=(by have h:=axt;rewrite [<-eQ.eq_1,<-gU.eq_1]at h;exact h:ay 47=_)
def aET:=(li Tryz.func48 rfl).trans (by cbv)
def axu:=(li Tryz.func49 rfl).trans (by cbv)
def aC4:=(by have h:=axu;rewrite [<-eQ.eq_1]at h;exact h:ay 49=_)
def axv:=(li Tryz.func50 rfl).trans (by cbv)
def aC2:=(by have h:=axv;rewrite [<-eQ.eq_1]at h;exact h:ay 50=_)
def agV:=(li Tryz.func51 rfl).trans (by cbv)
def CJ:List KO:=yc (ay 51) 9
def mz:=(by have h:=(nh agV 9).trans (by cbv);rewrite [<-aR.eq_1]at h;exact h:CJ=_)
def uK:KC:=kQ (ay 51) 0
def dk:=(by have h:=(dP agV 0).trans (by cbv);exact h:uK=_)
def aDd:=(by have h:=agV;rewrite [<-aE.eq_1,<-aR.eq_1,<-dk,<-mz]at h;exact h:ay 51=_)
def aDq:=(li Tryz.func52 rfl).trans (by cbv)
def aog:=(li Tryz.func53 rfl).trans (by cbv)
def BY:List KO:=yc (ay 53) 8
def gZ:=(by have h:=(nh aog 8).trans (by cbv);rewrite [<-cx.eq_1]at h;exact h:BY=_)
def aEU:=(by have h:=aog;rewrite [<-fN.eq_1,<-cx.eq_1,<-gZ]at h;exact h:ay 53=_)
def aEV:=(li Tryz.func54 rfl).trans (by cbv)
def ayv:=(li Tryz.func55 rfl).trans (by cbv)
def aEW:=(by have h:=ayv;rewrite [<-aP.eq_1]at h;exact h:ay 55=_)
def ayw:=(li Tryz.func56 rfl).trans (by cbv)
def aEX:=(by have h:=ayw;rewrite [<-aP.eq_1,<-cx.eq_1]at h;exact h:ay 56=_)
def aEY:ay 57=some ⟨73,lW [dY 3 (YV 24 0),dY 4 (YV 24 1),dY 5 (YV 8 2),dY 6 (.alloc fN)] (.dO [3,4,5,6] (.Q (.draw [(7,[.I .u32 0,.I .u32 0,.I .u32 0,.I .u32 0,.I .u32 0,.I .u32 0,.I .u32 0,.I .u32 0])] [H (eG 16 0 3) 0 0,H (dY 17 (dW 8 16)) 0 0,H (eG 18 8 4) 0 0,H (dY 19 (dW 8 18)) 0 0,mJ (dY 20 (qB 122 [17,19])) 0 1,H (eG 21 8 3) 0 1,H (dY 22 (dW 8 21)) 0 1,H (eG 23 0 4) 0 1,H (dY 24 (dW 8 23)) 0 1,mJ (dY 25 (qB 122 [22,24])) 1 2,mJ (dY 26 (qB 125 [20,25])) 2 3,mJ (GB (GC 8 7 26)) 3 4]) (.dO [3,4,5,6,7] (.Q (.draw [(8,[.I .u32 0,.I .u32 0,.I .u32 0,.I .u32 0,.I .u32 0,.I .u32 0,.I .u32 0,.I .u32 0]),(9,[.I .u32 0,.I .u32 0,.I .u32 0,.I .u32 0,.I .u32 0,.I .u32 0,.I .u32 0,.I .u32 0])] [H (eG 27 0 3) 0 0,H (dY 28 (dW 8 27)) 0 0,H (eG 29 0 4) 0 0,H (dY 30 (dW 8 29)) 0 0,mJ (dY 31 (qB 122 [28,30])) 0 1,H (eG 32 8 3) 0 1,H (dY 33 (dW 8 32)) 0 1,H (eG 34 8 4) 0 1,H (dY 35 (dW 8 34)) 0 1,mJ (dY 36 (qB 122 [33,35])) 1 2,mJ (GB (GC 8 8 31)) 2 3,mJ (GB (GC 8 9 36)) 3 4]) (.dO [3,4,5,6,7,8,9] (lW [dY 37 (dW 8 9),dY 38 (dW 8 8),dY 39 (qB 125 [37,38]),dY 10 (.alloc cx),GB (GC 8 10 39)] (.dO [3,4,5,6,7,8,9,10] (lW [eG 40 16 3,dY 41 (dW 8 40),eG 42 16 4,dY 43 (dW 8 42),dY 44 (qB 122 [41,43]),dY 11 (.alloc cx),GB (GC 8 11 44)] (.dO [5,6,7,8,9,10,11] (lW [dY 45 (dW 8 11),dY 46 (dW 8 11),dY 47 (qB 122 [45,46]),dY 12 (.alloc cx),GB (GC 8 12 47)] (.dO [5,6,7,8,9,10,11,12] (.Q (.draw [(13,[.I .u32 0,.I .u32 0,.I .u32 0,.I .u32 0,.I .u32 0,.I .u32 0,.I .u32 0,.I .u32 0])] [H (dY 48 (dW 8 5)) 0 1,H (dY 49 (dW 8 8)) 0 0,H (dY 50 (dW 8 9)) 0 0,mJ (dY 51 (qB 122 [49,50])) 0 1,mJ (dY 52 (qB 122 [48,51])) 1 2,mJ (GB (GC 8 13 52)) 2 3]) (.dO [6,7,10,11,12,13] (.Q (.draw [(14,[.I .u32 0,.I .u32 0,.I .u32 0,.I .u32 0,.I .u32 0,.I .u32 0,.I .u32 0,.I .u32 0]),(15,[.I .u32 0,.I .u32 0,.I .u32 0,.I .u32 0,.I .u32 0,.I .u32 0,.I .u32 0,.I .u32 0])] [H (dY 53 (dW 8 12)) 0 0,H (dY 54 (dW 8 13)) 0 0,mJ (dY 55 (qB 125 [53,54])) 0 1,H (dY 56 (dW 8 12)) 0 1,H (dY 57 (dW 8 13)) 0 1,mJ (dY 58 (qB 124 [56,57])) 1 2,mJ (GB (GC 8 14 55)) 2 3,mJ (GB (GC 8 15 58)) 3 4]) (.dO [6,7,10,11,14,15] (.Q (.draw [] [H (dY 59 (dW 8 7)) 0 0,H (dY 60 (dW 8 11)) 0 0,mJ (dY 61 (qB 122 [59,60])) 0 1,H (dY 62 (dW 8 15)) 0 1,mJ (dY 63 (qB 122 [61,62])) 1 2,H (dY 64 (dW 8 10)) 0 2,H (dY 65 (dW 8 11)) 0 2,mJ (dY 66 (qB 122 [64,65])) 2 3,H (dY 67 (dW 8 14)) 0 3,mJ (dY 68 (qB 122 [66,67])) 3 4,H (dY 69 (dW 8 14)) 0 4,H (dY 70 (dW 8 15)) 0 4,mJ (dY 71 (qB 122 [69,70])) 4 5,H (cz 72 (.bld fN [(0,8,.t 63),(8,8,.t 68),(16,8,.t 71)])) 5 5,mJ (GB (GC 24 6 72)) 5 6]) (Im [6]))))))))))))))))),[.C 6 (.A 24)]⟩:=(li Tryz.func57 rfl).trans (by kernel_rfl)
def aoh:=(li Tryz.func58 rfl).trans (by cbv)
def xH:KC:=kQ (ay 58) 0
def h9:=(by have h:=(dP aoh 0).trans (by cbv);exact h:xH=_)
def aEZ:=(by have h:=aoh;rewrite [<-fN.eq_1,<-cx.eq_1,<-h9]at h;exact h:ay 58=_)
def ayx:=(li Tryz.func59 rfl).trans (by cbv)
def aE0:=(by have h:=ayx;rewrite [<-fN.eq_1,<-cx.eq_1]at h;exact h:ay 59=_)
def ayy:=(li Tryz.func60 rfl).trans (by cbv)
def aC5:=(by have h:=ayy;rewrite [<-fN.eq_1,<-cx.eq_1]at h;exact h:ay 60=_)
def ayz:=(li Tryz.func61 rfl).trans (by cbv)
def aE1:=(by have h:=ayz;rewrite [<-cx.eq_1]at h;exact h:ay 61=_)
def aE2:=(li Tryz.func62 rfl).trans (by cbv)
def qz:KC:=.dO [1,3,4] (.Q (lW [ez 49 4,eG 50 18 1,dt 51 50,cz 52 (Hp 51),cz 53 (qe .lss 49 52)] (.cond (.t 53) .skip (.dO [1,3] (.exit 0)))) (.Q (.block 1 (.draw [] [H (ez 56 3) 0 1,H (eG 57 18 1) 0 0,H (dt 58 57) 0 0,H (ez 59 4) 0 0,H (cz 60 (Ef 12 58 59)) 0 0,H (eG 61 0 60) 0 0,H (dY 62 (dW 6 61)) 0 0,mJ (dY 63 (qB 137 [62])) 0 1,mJ (dY 64 (q_a 1 56 63)) 1 2,H (eG 65 18 1) 0 2,H (dt 66 65) 0 2,H (ez 67 4) 0 2,H (cz 68 (Ef 12 66 67)) 0 2,H (eG 69 6 68) 0 2,H (dY 70 (dW 6 69)) 0 2,mJ (dY 71 (qB 137 [70])) 2 3,mJ (dY 72 (q_a 1 64 71)) 3 4,H (ez 3 72) 4 4])) (.ops [ez 54 4,cz 55 (rz .add 54 1),ez 4 55])))
def mI:=qz.eq_1
def aE3:ay 63=some ⟨84,lW [dY 1 (YV 20 0),cz 2 (wm .aw)] (.Q (.draw [] [H (eG 5 0 1) 0 1,H (dt 6 5) 0 1,H (cz 7 (q_W .u8 6)) 0 1,H (dY 8 (.bsl 1 [.I .u8 0] 1 [(0,.t 7)])) 0 1,H (eG 9 1 1) 0 0,H (dt 10 9) 0 0,H (dY 11 (.byt (.t 10))) 0 0,mJ (dY 12 (qB 138 [11])) 0 1,mJ (dY 13 (q_a 1 8 12)) 1 2,H (ez 3 13) 2 2]) (.Q (lW [eG 14 0 1,dt 15 14,dY 16 (qB 139 [15])] (uz 16 (.ops [ez 17 3,eG 18 2 1,dt 19 18,dY 20 (.byt (.t 19)),dY 21 (qB 138 [20]),dY 22 (q_a 1 17 21),ez 3 22]))) (.Q (lW [eG 23 0 1,dt 24 23,dY 25 (qB 140 [24])] (uz 25 (.draw [] [H (ez 26 3) 0 1,H (eG 27 3 1) 0 0,H (dY 28 (dW 3 27)) 0 0,mJ (dY 29 (qB 141 [28])) 0 1,mJ (dY 30 (q_a 1 26 29)) 1 2,H (eG 31 6 1) 0 2,H (dY 32 (dW 6 31)) 0 2,mJ (dY 33 (qB 137 [32])) 2 3,mJ (dY 34 (q_a 1 30 33)) 3 4,H (ez 3 34) 4 4]))) (.Q (lW [eG 35 0 1,dt 36 35,cz 37 (rz .eql 36 8)] (uz 37 (.Q (.draw [] [H (ez 38 3) 0 1,H (eG 39 12 1) 0 0,H (dY 40 (dW 6 39)) 0 0,mJ (dY 41 (qB 137 [40])) 0 1,mJ (dY 42 (q_a 1 38 41)) 1 2,H (eG 43 18 1) 0 2,H (dt 44 43) 0 2,H (cz 45 (Hp 44)) 0 2,H (cz 46 (q_W .u8 45)) 0 2,H (dY 47 (.bsl 1 [.I .u8 0] 1 [(0,.t 46)])) 0 2,mJ (dY 48 (q_a 1 42 47)) 2 3,H (ez 3 48) 3 3]) (lW [cz 4 (wm (.I .i64 0))] (.block 0 (.L qz)))))) (.Q (lW [eG 73 0 1,dt 74 73,cz 75 (rz .gtr 74 8)] (uz 75 (.ops [ez 76 3,eG 77 19 1,dt 78 77,cz 79 (.Mr 20 (.t 78) (yG 0)),dY 80 (dW 20 79),dY 81 (qB 63 [80]),dY 82 (q_a 1 76 81),ez 3 82]))) (lW [ez 83 3,ez 2 83] (Im [2]))))))),[.tmp 2]⟩:=(li Tryz.func63 rfl).trans (by kernel_rfl)
def aoj:=(li Tryz.func64 rfl).trans (by cbv)
def vV:KC:=kQ (ay 64) 0
def kz:=(by have h:=(dP aoj 0).trans (by cbv);exact h:vV=_)
def aEp:=(by have h:=aoj;rewrite [<-kz]at h;exact h:ay 64=_)
def aEr:=(li Tryz.func65 rfl).trans (by cbv)
def aok:=(li Tryz.func66 rfl).trans (by cbv)
def BO:KC:=kQ (ay 66) 0
def mc:=(by have h:=(dP aok 0).trans (by cbv);exact h:BO=_)
def aDb:=(by have h:=aok;rewrite [<-mc]at h;exact h:ay 66=_)
def abR:=(li Tryz.func67 rfl).trans (by cbv)
def Ut:List KO:=yc (ay 67) 6
def FY:=(by have h:=(nh abR 6).trans (by cbv);exact h:Ut=_)
def Uu:List KO:=yc (ay 67) 8
def FZ:=(by have h:=(nh abR 8).trans (by cbv);exact h:Uu=_)
def Uv:List KO:=yc (ay 67) 12
def F0:=(by have h:=(nh abR 12).trans (by cbv);exact h:Uv=_)
def aE4:=(by have h:=abR;rewrite [<-ah.eq_1,<-FY,<-FZ,<-F0]at h;exact h:ay 67=_)
def aol:=(li Tryz.func68 rfl).trans (by cbv)
def QI:List KO:=yc (ay 68) 1
def j0:=(by have h:=(nh aol 1).trans (by cbv);exact h:QI=_)
def aC_:=(by have h:=aol;rewrite [<-j0]at h;exact h:ay 68=_)
def aEw:=(li Tryz.func69 rfl).trans (by cbv)
def aom:=(li Tryz.func70 rfl).trans (by cbv)
def Xm:List KO:=yc (ay 70) 1
def qV:=(by have h:=(nh aom 1).trans (by cbv);exact h:Xm=_)
def aDa:=(by have h:=aom;rewrite [<-qV]at h;exact h:ay 70=_)
def abS:=(li Tryz.func71 rfl).trans (by cbv)
def AO:KC:=kQ (ay 71) 0
def nv:=(by have h:=(dP abS 0).trans (by cbv);exact h:AO=_)
def AP:KC:=kQ (ay 71) 1
def ny:=(by have h:=(dP abS 1).trans (by cbv);exact h:AP=_)
def AQ:KC:=kQ (ay 71) 2
def nA:=(by have h:=(dP abS 2).trans (by cbv);exact h:AQ=_)
def aE5:=(by have h:=abS;rewrite [<-iE.eq_1,<-bR.eq_1,<-cO.eq_1,<-nv,<-ny,<-nA]at h;exact h:ay 71=_)
def aze:=(li Tryz.func72 rfl).trans (by cbv)
def aEc:=(by have h:=aze;rewrite [<-eQ.eq_1]at h;exact h:ay 72=_)
def aon:=(li Tryz.func73 rfl).trans (by cbv)
def qg:KC:=kQ (ay 73) 0
def gE:=(by have h:=(dP aon 0).trans (by cbv);exact h:qg=_)
def aD5:=(by have h:=aon;rewrite [<-gU.eq_1,<-gE]at h;exact h:ay 73=_)
def aoo:=(li Tryz.func74 rfl).trans (by cbv)
def sA:KC:=kQ (ay 74) 0
def iJ:=(by have h:=(dP aoo 0).trans (by cbv);exact h:sA=_)
def aC7:=(by have h:=aoo;rewrite [<-nK.eq_1,<-iJ]at h;exact h:ay 74=_)
def azf:=(li Tryz.func75 rfl).trans (by cbv)
def aEb:=(by have h:=azf;rewrite [<-eQ.eq_1]at h;exact h:ay 75=_)
def aD6:ay 76=some ⟨60,lW [dY 1 (YV 20 0),dY 2 (.alloc eQ)] (.Q (.draw [(3,[.I .u64 0,.I .u64 0,.I .u64 0,.I .u64 0,.I .u64 0]),(4,[.I .u64 0,.I .u64 0,.I .u64 0,.I .u64 0,.I .u64 0]),(5,[.I .u64 0,.I .u64 0,.I .u64 0,.I .u64 0,.I .u64 0])] [H (eG 11 0 1) 0 0,H (dY 12 (dW 5 11)) 0 0,H (eG 13 0 1) 0 0,H (dY 14 (dW 5 13)) 0 0,mJ (dY 15 (qB 79 [12,14])) 0 1,H (eG 16 5 1) 0 1,H (dY 17 (dW 5 16)) 0 1,H (eG 18 5 1) 0 1,H (dY 19 (dW 5 18)) 0 1,mJ (dY 20 (qB 79 [17,19])) 1 2,H (eG 21 10 1) 0 2,H (dY 22 (dW 5 21)) 0 2,H (eG 23 10 1) 0 2,H (dY 24 (dW 5 23)) 0 2,mJ (dY 25 (qB 79 [22,24])) 2 3,mJ (GB (GC 5 3 15)) 3 4,mJ (GB (GC 5 4 20)) 4 5,mJ (GB (GC 5 5 25)) 5 6]) (.Q (.draw [(6,[.I .u64 0,.I .u64 0,.I .u64 0,.I .u64 0,.I .u64 0]),(7,[.I .u64 0,.I .u64 0,.I .u64 0,.I .u64 0,.I .u64 0])] [H (dY 26 (dW 5 3)) 0 0,H (dY 27 (dW 5 4)) 0 0,mJ (dY 28 (qB 108 [26,27])) 0 1,H (eG 29 0 1) 0 1,H (dY 30 (dW 5 29)) 0 1,H (eG 31 5 1) 0 1,H (dY 32 (dW 5 31)) 0 1,mJ (dY 33 (qB 108 [30,32])) 1 2,mJ (GB (GC 5 6 28)) 2 3,mJ (GB (GC 5 7 33)) 3 4]) (.Q (.draw [(8,[.I .u64 0,.I .u64 0,.I .u64 0,.I .u64 0,.I .u64 0]),(9,[.I .u64 0,.I .u64 0,.I .u64 0,.I .u64 0,.I .u64 0])] [H (dY 34 (dW 5 6)) 0 1,H (dY 35 (dW 5 7)) 0 0,H (dY 36 (dW 5 7)) 0 0,mJ (dY 37 (qB 79 [35,36])) 0 1,mJ (dY 38 (qB 106 [34,37])) 1 2,H (dY 39 (dW 5 3)) 0 2,H (dY 40 (dW 5 4)) 0 2,mJ (dY 41 (qB 106 [39,40])) 2 3,mJ (GB (GC 5 8 38)) 3 4,mJ (GB (GC 5 9 41)) 4 5]) (.Q (.draw [(10,[.I .u64 0,.I .u64 0,.I .u64 0,.I .u64 0,.I .u64 0])] [H (dY 42 (dW 5 5)) 0 0,H (dY 43 (dW 5 5)) 0 0,mJ (dY 44 (qB 108 [42,43])) 0 1,H (dY 45 (dW 5 9)) 0 1,mJ (dY 46 (qB 108 [44,45])) 1 2,mJ (GB (GC 5 10 46)) 2 3]) (.Q (.draw [] [H (dY 47 (dW 5 8)) 0 0,H (dY 48 (dW 5 10)) 0 0,mJ (dY 49 (qB 79 [47,48])) 0 1,H (dY 50 (dW 5 9)) 0 1,H (dY 51 (dW 5 6)) 0 1,mJ (dY 52 (qB 79 [50,51])) 1 2,H (dY 53 (dW 5 10)) 0 2,H (dY 54 (dW 5 9)) 0 2,mJ (dY 55 (qB 79 [53,54])) 2 3,H (dY 56 (dW 5 8)) 0 3,H (dY 57 (dW 5 6)) 0 3,mJ (dY 58 (qB 79 [56,57])) 3 4,H (cz 59 (.bld eQ [(0,5,.t 49),(5,5,.t 52),(10,5,.t 55),(15,5,.t 58)])) 4 4,mJ (GB (GC 20 2 59)) 4 5]) (Im [2])))))),[.C 2 (.A 20)]⟩:=(li Tryz.func76 rfl).trans (by kernel_rfl)
def aD7:ay 77=some ⟨75,lW [dY 2 (YV 20 0),dY 3 (YV 20 1),dY 4 (.alloc eQ)] (.Q (.draw [(5,[.I .u64 0,.I .u64 0,.I .u64 0,.I .u64 0,.I .u64 0])] [H (eG 13 5 2) 0 0,H (dY 14 (dW 5 13)) 0 0,H (eG 15 0 2) 0 0,H (dY 16 (dW 5 15)) 0 0,mJ (dY 17 (qB 106 [14,16])) 0 1,H (eG 18 5 3) 0 1,H (dY 19 (dW 5 18)) 0 1,H (eG 20 0 3) 0 1,H (dY 21 (dW 5 20)) 0 1,mJ (dY 22 (qB 106 [19,21])) 1 2,mJ (dY 23 (qB 79 [17,22])) 2 3,mJ (GB (GC 5 5 23)) 3 4]) (.Q (.draw [(6,[.I .u64 0,.I .u64 0,.I .u64 0,.I .u64 0,.I .u64 0])] [H (eG 24 5 2) 0 0,H (dY 25 (dW 5 24)) 0 0,H (eG 26 0 2) 0 0,H (dY 27 (dW 5 26)) 0 0,mJ (dY 28 (qB 108 [25,27])) 0 1,H (eG 29 5 3) 0 1,H (dY 30 (dW 5 29)) 0 1,H (eG 31 0 3) 0 1,H (dY 32 (dW 5 31)) 0 1,mJ (dY 33 (qB 108 [30,32])) 1 2,mJ (dY 34 (qB 79 [28,33])) 2 3,mJ (GB (GC 5 6 34)) 3 4]) (.Q (.draw [(7,[.I .u64 0,.I .u64 0,.I .u64 0,.I .u64 0,.I .u64 0])] [H (eG 35 15 2) 0 1,H (dY 36 (dW 5 35)) 0 1,mJ (dY 37 (qB 159 [])) 0 1,mJ (dY 38 (qB 79 [36,37])) 1 2,H (eG 39 15 3) 0 2,H (dY 40 (dW 5 39)) 0 2,mJ (dY 41 (qB 79 [38,40])) 2 3,mJ (GB (GC 5 7 41)) 3 4]) (.Q (.draw [(8,[.I .u64 0,.I .u64 0,.I .u64 0,.I .u64 0,.I .u64 0])] [H (eG 42 10 2) 0 0,H (dY 43 (dW 5 42)) 0 0,H (eG 44 10 2) 0 0,H (dY 45 (dW 5 44)) 0 0,mJ (dY 46 (qB 108 [43,45])) 0 1,H (eG 47 10 3) 0 1,H (dY 48 (dW 5 47)) 0 1,mJ (dY 49 (qB 79 [46,48])) 1 2,mJ (GB (GC 5 8 49)) 2 3]) (.Q (.draw [(9,[.I .u64 0,.I .u64 0,.I .u64 0,.I .u64 0,.I .u64 0]),(10,[.I .u64 0,.I .u64 0,.I .u64 0,.I .u64 0,.I .u64 0]),(11,[.I .u64 0,.I .u64 0,.I .u64 0,.I .u64 0,.I .u64 0]),(12,[.I .u64 0,.I .u64 0,.I .u64 0,.I .u64 0,.I .u64 0])] [H (dY 50 (dW 5 6)) 0 0,H (dY 51 (dW 5 5)) 0 0,mJ (dY 52 (qB 106 [50,51])) 0 1,H (dY 53 (dW 5 8)) 0 1,H (dY 54 (dW 5 7)) 0 1,mJ (dY 55 (qB 106 [53,54])) 1 2,H (dY 56 (dW 5 8)) 0 2,H (dY 57 (dW 5 7)) 0 2,mJ (dY 58 (qB 108 [56,57])) 2 3,H (dY 59 (dW 5 6)) 0 3,H (dY 60 (dW 5 5)) 0 3,mJ (dY 61 (qB 108 [59,60])) 3 4,mJ (GB (GC 5 9 52)) 4 5,mJ (GB (GC 5 10 55)) 5 6,mJ (GB (GC 5 11 58)) 6 7,mJ (GB (GC 5 12 61)) 7 8]) (.Q (.draw [] [H (dY 62 (dW 5 9)) 0 0,H (dY 63 (dW 5 10)) 0 0,mJ (dY 64 (qB 79 [62,63])) 0 1,H (dY 65 (dW 5 11)) 0 1,H (dY 66 (dW 5 12)) 0 1,mJ (dY 67 (qB 79 [65,66])) 1 2,H (dY 68 (dW 5 10)) 0 2,H (dY 69 (dW 5 11)) 0 2,mJ (dY 70 (qB 79 [68,69])) 2 3,H (dY 71 (dW 5 9)) 0 3,H (dY 72 (dW 5 12)) 0 3,mJ (dY 73 (qB 79 [71,72])) 3 4,H (cz 74 (.bld eQ [(0,5,.t 64),(5,5,.t 67),(10,5,.t 70),(15,5,.t 73)])) 4 4,mJ (GB (GC 20 4 74)) 4 5]) (Im [4]))))))),[.C 4 (.A 20)]⟩:=(li Tryz.func77 rfl).trans (by kernel_rfl)
def azg:=(li Tryz.func78 rfl).trans (by cbv)
def aDU:=(by have h:=azg;rewrite [<-gU.eq_1]at h;exact h:ay 78=_)
def abT:=(li Tryz.func79 rfl).trans (by cbv)
def mf:KC:=kQ (ay 79) 0
def cr:=(by have h:=(dP abT 0).trans (by cbv);exact h:mf=_)
def tL:KC:=kQ (ay 79) 1
def mV:=(by have h:=(dP abT 1).trans (by cbv);rewrite [<-cr]at h;exact h:tL=_)
def z8:KC:=kQ (ay 79) 2
def mW:=(by have h:=(dP abT 2).trans (by cbv);exact h:z8=_)
def aDP:=(by have h:=abT;rewrite [<-Xn.eq_1,<-gU.eq_1,<-cr,<-mV,<-mW]at h;exact h:ay 79=_)
def ahK:=(li Tryz.func80 rfl).trans (by cbv)
def xq:KC:=kQ (ay 80) 0
def eE:=(by have h:=(dP ahK 0).trans (by cbv);exact h:xq=_)
def jc:KC:=kQ (ay 80) 1
def cU:=(by have h:=(dP ahK 1).trans (by cbv);rewrite [<-eE]at h;exact h:jc=_)
def aDN:=(by have h:=ahK;rewrite [<-aP.eq_1,<-eE,<-cU]at h;exact h:ay 80=_)
def aEl:=(li Tryz.func81 rfl).trans (by cbv)
def aE6:=(li Tryz.func82 rfl).trans (by cbv)
def aE7:=(li Tryz.func83 rfl).trans (by cbv)
def aEv:=(li Tryz.func84 rfl).trans (by cbv)
def azh:=(li Tryz.func85 rfl).trans (by cbv)
def aE8:=(by have h:=azh;rewrite [<-fX.eq_1]at h;exact h:ay 85=_)
end
end Go.Proofs.YtiaklhkdbokkhaaGreat.am
