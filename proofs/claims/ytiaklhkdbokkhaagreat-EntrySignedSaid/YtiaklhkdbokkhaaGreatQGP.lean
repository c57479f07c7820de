/- Parts. No condition. -/
import Derived.Test.YtiaklhkdbokkhaaGreatProg
import Derived.KernelRfl
import Derived.Test.YtiaklhkdbokkhaaGreatQF
import Derived.Test.YtiaklhkdbokkhaaGreatQD
set_option linter.all false
namespace Go.Proofs.YtiaklhkdbokkhaaGreat.am
open Go
open Option renaming some->J,none->M
open Bool renaming false->O,true->G
open Go.IntKind renaming i64->Y,u64->U
open Decidable renaming decide->b_
open Go.Proofs.YtiaklhkdbokkhaaGreat.am renaming bm->H
noncomputable section
def nts:List (Option Nts):=[M,M,M,J [(8,[6]),(26,[6])],J [(4,[2]),(4,[2])],J [(6,[0]),(6,[0])],J [(12,[4,5]),(22,[4,5])],J [(8,[2]),(14,[2])],J [(4,[2]),(4,[2])],J [(4,[2])],J [(4,[2])],J [(8,[2,3]),(18,[2,3]),(22,[2,3])],J [(6,[2])],J [(15,[1,4,23,24,25]),(20,[1,4]),(45,[2,3])],J [(20,[4])],J [(8,[2,3]),(42,[2,3]),(46,[2,3])],J [(6,[2])],J [(12,[6]),(18,[6])],J [(4,[2])],J [(9,[2,3,4,7,8,9]),(14,[2,3,7,8]),(27,[6]),(33,[6])],J [(11,[1,3,4]),(16,[1,3]),(31,[2])],J [(8,[2]),(15,[0,3]),(20,[]),(28,[2]),(33,[2])],J [(4,[2])],J [(5,[1,2,47]),(8,[4]),(15,[1,2,5]),(20,[1,2]),(25,[1,2,5,70]),(28,[4]),(36,[1,2,6]),(41,[]),(49,[4]),(54,[4])],J [(8,[2]),(19,[2]),(25,[2]),(29,[2])],J [(12,[2,3])],J [(4,[0])],J [(11,[3,4,5,6,7]),(16,[4,6]),(24,[3,4,5,6,7,15]),(29,[3,4,5,6,7]),(38,[4])],J [(14,[2])],J [],J [],J [(3,[0,1]),(8,[0,1])],J [(8,[2,3]),(21,[2,3]),(36,[2,3]),(40,[2,3])],J [(8,[2,3]),(15,[1,4]),(25,[2,3]),(30,[1]),(49,[2,3]),(53,[2,3])],J [(4,[2])],J [(4,[6])],J [(6,[6])],J [(4,[2])],J [(8,[2])],J [(2,[0,1,16])],J [(8,[2])],J [(17,[0,3,4,5]),(22,[4]),(35,[2])],J [(93,[2]),(97,[2])],J [(4,[2])],J [(8,[4])],J [(5,[0,16]),(8,[2]),(12,[2])],J [(12,[4])],J [(12,[2,3]),(28,[2,3]),(38,[2,3])],J [(4,[2])],J [(4,[6])],J [(4,[2])],J [(7,[1,3]),(12,[1]),(20,[2]),(29,[2]),(37,[2]),(41,[2]),(41,[2])],J [(4,[2])],J [(2,[1,2]),(4,[1,2,4]),(6,[1,2,4]),(9,[1,2,4,21]),(12,[2,3]),(14,[1,2,4]),(16,[2,4,5]),(18,[2,4,5,6]),(20,[2,4,5,6,7]),(22,[2,4,5,6,8,9]),(25,[2,4,5,6,8,50]),(28,[2,3]),(30,[2,4,5,6,8]),(36,[2,5,6,8]),(38,[2,3])],J [(4,[2])],J [(4,[2])],J [(14,[2])],J [(2,[3,4,5,6]),(4,[3,4,5,6,7]),(6,[3,4,5,6,7,8,9]),(8,[3,4,5,6,7,8,9,10]),(10,[5,6,7,8,9,10,11]),(12,[5,6,7,8,9,10,11,12]),(14,[6,7,10,11,12,13]),(16,[6,7,10,11,14,15]),(18,[6])],J [(11,[2,3,4,5,6,7]),(16,[4,6]),(29,[4])],J [(8,[0])],J [(4,[2])],J [(4,[0])],J [(24,[2])],J [(26,[1,3,4]),(31,[1,3]),(45,[2])],J [(10,[6]),(17,[1,2,3,7]),(22,[1]),(29,[6])],J [(4,[2])],J [(7,[0,3]),(12,[]),(20,[2]),(25,[2])],J [(8,[2]),(21,[2]),(21,[2]),(27,[2]),(27,[2]),(33,[2]),(39,[2]),(39,[2]),(43,[2])],J [(4,[4]),(4,[4])],J [(4,[2])],J [(4,[4]),(4,[4])],J [(9,[2,3,11,12,13]),(14,[2,3]),(28,[2,3,6,7]),(33,[2,6]),(45,[2,8,36,37]),(50,[2,8]),(59,[2])],J [(4,[4])],J [(9,[1,2,3,5]),(14,[2,3]),(23,[2])],J [(11,[1,2,3,4]),(16,[2,3]),(23,[2])],J [(4,[0])],J [(12,[2])],J [(14,[4])],J [(4,[2])],J [(9,[3,4,5,20,21]),(14,[4,5]),(23,[3,4,5,6,7,20,21,26,27]),(28,[3,4,5,20,21]),(49,[4,5,10,11,64]),(54,[4,10,11]),(79,[4])],J [(9,[2,3,10,11]),(14,[2,3]),(23,[2,3,4,5,6,10,11]),(28,[2,3,10,11]),(38,[2])],J [(4,[2])],J [(8,[2,3]),(22,[2,3]),(26,[2,3])],J [],J [(19,[2,3]),(29,[2,3]),(39,[2,3]),(45,[2,3]),(55,[2,3]),(59,[2,3])],J [(8,[2])],J [(36,[0,3,63,64,65]),(41,[0,3]),(53,[0,78,79,80]),(58,[])],J [(4,[2])],J [(4,[2])],J [(9,[3,4,5,14,15]),(14,[4,5]),(26,[3,4,5,6,7,8,14,15,19,20]),(31,[3,4,5,6,8,14,15]),(50,[4])],J [(11,[0,2,3,4,5]),(16,[2,3]),(31,[2])],J [(9,[2,3,4,5,9]),(14,[2,4]),(29,[4]),(33,[4])],J [(9,[1,2,3,5]),(14,[2,3]),(23,[2])],J [(4,[]),(14,[])],J [(8,[3,4]),(14,[3,4])],J [(8,[4]),(12,[4])],J [(8,[4])],J [(8,[2]),(12,[2])],J [(17,[0,3,4,5]),(22,[0,4]),(33,[2]),(37,[2])],J [(4,[2])],J [(24,[4]),(45,[0,1,4,5,6,8,59]),(68,[4]),(72,[4])],J [(10,[4,5]),(16,[4,5])],J [(7,[5,6,7]),(12,[]),(22,[2]),(27,[2])],J [(4,[2])],J [(4,[2])],J [(17,[4,5]),(28,[4,5]),(37,[4,5])],J [(7,[2,3,4,6]),(12,[2,4]),(25,[4])],J [(4,[0])],J [(7,[2,3,4,6]),(12,[2,4]),(21,[4])],J [(4,[2])],J [(4,[2])],J [(7,[2,3,5]),(12,[]),(20,[4]),(25,[4])],J [(5,[1,16]),(8,[2]),(13,[1,38]),(16,[2]),(27,[2]),(33,[2]),(37,[2])],J [(5,[2,3,67]),(8,[4]),(15,[2,3,5]),(20,[2,3]),(25,[2,3,5,104]),(28,[4]),(36,[2,3,6]),(41,[]),(49,[4]),(54,[4])],J [(4,[2])],J [(4,[4]),(4,[4])],J [(7,[2,3,5]),(12,[]),(20,[4]),(25,[4])],J [(9,[1,2,3,4]),(14,[2,3]),(21,[2])],J [(4,[0])],J [(4,[0])],J [(6,[2])],J [(4,[2])],J [(9,[2,3,4,5,6]),(14,[4,5]),(24,[2,3,4,5,6,7,8]),(29,[2,3,4,5,6,7]),(49,[4,5,10,11,12]),(54,[4,10,11]),(66,[4,10,11]),(71,[4,10]),(82,[4,10,14,15]),(87,[4,10,14]),(99,[4])],J [(2,[2,3,4]),(5,[2,3,4,14]),(8,[4,5]),(10,[2,3,4]),(12,[4,6]),(14,[4,6,7]),(16,[4,6,7]),(18,[4,6,8]),(21,[4,6,8,34]),(24,[4,6,8,9]),(26,[4,6,8,11]),(28,[4,6,8]),(31,[4,8,53]),(34,[4,5]),(36,[4,8]),(42,[4,8]),(44,[4,5])],J [(10,[4]),(16,[4])],J [(11,[2,3,4,5,6,7]),(16,[4,5]),(27,[4])],J [(15,[0,1,2,8]),(20,[]),(28,[6]),(33,[6])],J [(9,[0,3,4]),(14,[3]),(21,[2])],J [(4,[0])],J [(4,[2])],J [(8,[2])],J [(6,[2])],J [(9,[1,2,3,4]),(14,[2,3]),(21,[2])],J [(4,[2])],J [(9,[0,3,4]),(14,[3]),(27,[2])],J [(8,[2]),(12,[2])],J [(4,[2])],J [(13,[2]),(19,[2]),(29,[2]),(38,[1,3,4]),(43,[3]),(56,[2])],J [(4,[2])],J [(4,[2])],J [(4,[2])],J [(15,[1,3,4]),(20,[1,3]),(39,[2])],J [(10,[6]),(17,[1,2,3,7]),(22,[1,2,3]),(30,[6]),(38,[1,2,3,8]),(43,[1]),(50,[6])],J [(4,[4])],J [(4,[2])],J [(4,[4]),(4,[4])],J [(4,[2])],J [(4,[4]),(4,[4])],J [(8,[6]),(15,[1,2,15,16,17]),(20,[]),(32,[6]),(37,[6])],J [(4,[4])],J [(8,[6]),(15,[1,2,15,16,17]),(20,[]),(32,[6]),(37,[6])],J [(8,[1,2,5,13]),(11,[4]),(17,[4]),(23,[4]),(29,[4]),(35,[4]),(35,[4]),(39,[4])],J [(8,[4]),(15,[0,1,12,13]),(20,[]),(30,[4]),(35,[4])],M,J [(4,[0])],J [(4,[0])],J [(9,[1,2,3,6,7,18]),(14,[2,3,6,7]),(38,[2,3,6,7,11,72]),(43,[3,6,11]),(61,[3,6,11,156]),(66,[3,6]),(75,[6])],J [(4,[0,1,4]),(9,[])],J [(9,[1,2,5,6]),(14,[1,5]),(27,[4])],J [(4,[0])],J [(9,[1,2,4,5,6]),(14,[4,5]),(27,[4])],J [(4,[2])],J [(10,[6])],M,J [(24,[4,5])],J [(9,[1,2,3,8,9]),(14,[1,2,3]),(26,[1,2,3,18]),(31,[1,2]),(46,[2])],J [(11,[1,2,3,11,12]),(16,[1,2,3]),(30,[1,2,6]),(35,[1,2]),(46,[2])],J [(29,[0,3,40,41,42]),(34,[])],J [(4,[]),(12,[0,14,15,16]),(17,[])],J [(8,[2,3]),(22,[2,3]),(26,[2,3])],J [],J [(4,[0,8,9,10]),(9,[])],J [(9,[3,10,11,12]),(14,[3]),(23,[2])],J [(4,[0])],J [(7,[1,2,4,7,8]),(12,[2,4]),(23,[4])],J [(9,[2,3,4,6,8]),(14,[2,4,6]),(23,[4,5])],J [(10,[4,5]),(16,[4,5])],J [(9,[5,8,9,10]),(14,[]),(22,[5,6,7,8,9,10,24]),(23,[]),(37,[]),(41,[2,3,4]),(45,[2,3,4])],J [(18,[2])],J [(16,[4]),(58,[0,1,4,5,51,52]),(63,[0,4,5]),(92,[4]),(96,[4])],J [(12,[4])],J [(4,[3])],J [(4,[4])],J [(4,[2])],J [(4,[2])],J [(12,[4])],J [(14,[0,1,2,6,7]),(19,[])],J [(4,[2])],J [(4,[4])],J [(4,[0])],J [(7,[0,3]),(12,[0]),(17,[0,3,4]),(19,[0,3,4,5]),(24,[2]),(29,[2])],J [(4,[2])],J [(5,[2,3,53]),(8,[4]),(15,[2,3,5]),(20,[2,3]),(28,[4]),(36,[2,3,6]),(41,[2,3]),(49,[4]),(57,[2,3,7]),(62,[]),(70,[4]),(75,[4])],J [(5,[2,3,29]),(8,[4]),(15,[2,3,5]),(20,[2,3]),(28,[4]),(36,[2,3,6]),(41,[]),(49,[4]),(54,[4])],J [(9,[1,3,4]),(14,[3]),(27,[2])],J [(7,[1,3,18]),(10,[2]),(15,[1,3,43]),(18,[2]),(23,[1,3,72]),(26,[2]),(31,[1,3,87]),(34,[2]),(43,[1,3,105]),(46,[2]),(52,[1,3,4]),(57,[1,3]),(62,[1,3,4,132]),(65,[2]),(75,[2]),(79,[2])],J [(8,[4]),(15,[0,1,5]),(20,[]),(28,[4]),(33,[4])],J [(5,[1,2]),(10,[1,2]),(15,[2])],J [(9,[2,3,4,5,6]),(14,[4,5]),(27,[4])],J [(7,[1,2,4,5]),(12,[2,4]),(21,[1,2,4,5,6,7]),(26,[1,2,4,5]),(38,[4])],J [(11,[2,3,4,6,7,8]),(16,[4,6,7]),(27,[4,5])],J [(8,[4]),(12,[4])],J [(9,[0,2,3,4]),(14,[2,3]),(21,[2])],J [(9,[3,4]),(14,[3]),(19,[3,4]),(24,[3,4]),(32,[3,4,5,6]),(37,[3,4]),(57,[2])],J [(9,[1,2,5,6]),(14,[1,2,5,6]),(24,[2,5,6,7,8]),(29,[2,5,6]),(43,[2,5,6,9]),(48,[2,9]),(60,[2,9,10,11]),(65,[10]),(72,[2,9,10,11,12]),(77,[2,9,10,11]),(85,[4])],J [(4,[0])],J [(8,[2]),(12,[2])],J [(7,[0,1,9,10,11]),(12,[0,1]),(23,[4]),(34,[4]),(43,[4]),(47,[4])],J [(4,[4])],J [(4,[2])],J [(8,[2]),(12,[2])],J [(8,[4]),(15,[0,1,12,13]),(20,[]),(30,[4]),(35,[4])],J [(8,[4]),(15,[0,1,12,13]),(20,[]),(30,[4]),(35,[4])],J [(8,[6]),(15,[1,2,15,16,17]),(20,[]),(32,[6]),(37,[6])],J [(4,[4]),(4,[4])],J [(8,[6]),(15,[1,2,15,16,17]),(20,[]),(32,[6]),(37,[6])],J [(6,[2])],J [(4,[4]),(4,[4])],J [(4,[2]),(4,[2])],J [(4,[2]),(4,[2])],J [(9,[3,6,7,8]),(14,[3]),(23,[2])],J [(4,[4])],J [],J [],J [(4,[2])],J [(15,[0,3,26,27,28]),(20,[0,3])],J [],M,J [(4,[4])],J [(8,[2])],J [(6,[2])],J [(12,[2])],J [(12,[4]),(16,[4])],J [(7,[0,5,6,7]),(12,[0]),(19,[0,5,6,7,27]),(22,[2]),(27,[2])],J [(7,[0,5,6,7]),(12,[0]),(22,[2]),(27,[2])],J [(5,[2,3,38]),(8,[4]),(15,[3,40,41,42]),(20,[]),(38,[4]),(43,[4])],J [(16,[4]),(41,[0,4,5,29,30]),(46,[0,4,5]),(58,[0,1,4,5,38,39]),(63,[0,4,5]),(81,[4]),(85,[4])],J [(4,[2])],J [(7,[0,3]),(12,[0]),(19,[0,3,32]),(22,[2]),(27,[2])],J [(9,[1,3,4]),(14,[3]),(27,[2])],J [(7,[1,3,61]),(10,[2]),(15,[1,118]),(18,[2]),(25,[1,4]),(30,[1]),(35,[1,4,150]),(38,[2]),(46,[1,5]),(51,[1]),(59,[1,5,6]),(64,[1,5]),(72,[2]),(80,[2]),(88,[1,7]),(93,[]),(101,[2]),(106,[2])],J [(4,[4])],J [(4,[2])],J [(9,[1,2,3,7,8]),(14,[1,3,7]),(27,[1,2,3,7,8,9,10]),(32,[1,2,3,7,8,9]),(47,[1,3,7,11,12]),(52,[1,3,11]),(68,[1,3,11,15,16]),(73,[15]),(80,[6])],J [(16,[4]),(20,[4]),(28,[4]),(36,[4]),(44,[4]),(48,[4])],J [(7,[0,1,7,8]),(12,[]),(22,[4]),(27,[4])],J [(4,[1,3]),(13,[2]),(13,[2]),(19,[2]),(25,[2]),(25,[2]),(31,[2]),(31,[2]),(37,[2]),(37,[2]),(43,[2]),(43,[2]),(47,[2])],J [(4,[4])],J [(4,[3])],J [(4,[4])],J [(4,[2]),(4,[2])],J [(4,[4])],J [(4,[3]),(4,[3])],J [(6,[4])],J [(4,[4]),(4,[4])],J [(8,[4])],J [(8,[3,4]),(14,[3,4])],J [(4,[4])],J [(4,[4])],J [(11,[4]),(19,[4]),(27,[4])],J [(6,[0,30])],J [(7,[0,5,6,7]),(12,[]),(22,[2]),(27,[2])],J [(4,[2])],J [(4,[2])],J [(8,[4]),(19,[2,3,5]),(24,[]),(32,[4]),(37,[4]),(49,[4]),(55,[2,3,6]),(60,[2,3]),(65,[2,3,6,72]),(68,[4]),(80,[2,3,7]),(85,[]),(93,[4]),(99,[4])],J [(4,[6])],J [(4,[6])],J [(4,[2])],J [(7,[0,1,7,8]),(12,[]),(22,[4]),(27,[4])],J [(7,[1,2,10]),(12,[]),(21,[6]),(25,[6])],J [(7,[0,1,7,8]),(12,[]),(22,[4]),(27,[4])],J [(19,[2]),(25,[2]),(25,[2]),(31,[2]),(31,[2]),(37,[2]),(41,[2])],J [(4,[4])],J [(4,[3])],J [(11,[4,5]),(17,[4,5]),(23,[4,5]),(29,[4,5])],J [(7,[0,1,7,8]),(12,[]),(22,[4]),(27,[4])],J [(7,[0,1,7,8]),(12,[]),(22,[4]),(27,[4])],J [(7,[0,3]),(12,[]),(20,[2]),(25,[2])],J [(9,[1,3,4]),(14,[3]),(27,[2])],J [(5,[1,47]),(8,[2]),(30,[2]),(37,[1,4]),(42,[1]),(51,[2]),(57,[1,4,5]),(62,[1,4]),(67,[1,4,5,109]),(70,[2]),(79,[1,6]),(84,[]),(92,[2]),(97,[2])],J [(4,[6])],J [(4,[2])],J [(7,[0,1,7,8]),(12,[]),(22,[4]),(27,[4])],J [(4,[4]),(4,[4])],J [(4,[4])],J [(4,[2])],J [(4,[2])],J [(7,[0,1,7,8]),(12,[]),(22,[4]),(27,[4])]]
def ax(f:FuncId):Option KF:=(nts[f]?).join.bind λs=>(Tryz.prog.funcs[f]?).bind λfn=>kfm Tryz.prog fn s
def aq_(f:FuncId)(k:KF)(h:ax f=J k):∃fn,Tryz.prog.funcs[f]? =J fn/\KOK Tryz.prog fn k:=by
 unfold ax at h;have⟨s,_,h⟩:=Iv.1 h
 grind [Option.bind_eq_some_iff,apZ]
def li{f:FuncId}{fn:Func}{s:Nts}(h:Tryz.prog.funcs[f]? =J fn)(g:(nts[f]?).join=J s):ax f=kfm Tryz.prog fn s:=by
 unfold ax
 grind
end
noncomputable section
set_option maxRecDepth 100000
set_option maxHeartbeats 0
def aEw:=(li Tryz.func3 rfl).trans (by cbv)
def e_3:=(by have h:=aEw;rewrite [<-cb.eq_1,<-fW.eq_1]at h;exact h:ax 3=_)
def aw_:=(li Tryz.func4 rfl).trans (by cbv)
def CG:List KO:=yb (ax 4) 1
def mz:=(by have h:=(nd aw_ 1).trans (by cbv);exact h:CG=_)
def e_4:=(by have h:=aw_;rewrite [<-mz]at h;exact h:ax 4=_)
def axa:=(li Tryz.func5 rfl).trans (by cbv)
def CH:List KO:=yb (ax 5) 2
def Bc:=(by have h:=(nd axa 2).trans (by cbv);rewrite [<-fW.eq_1]at h;exact h:CH=_)
def e_5:=(by have h:=axa;rewrite [<-cb.eq_1,<-fW.eq_1,<-aR.eq_1,<-Bc]at h;exact h:ax 5=_)
def aEx:=(li Tryz.func6 rfl).trans (by cbv)
def e_6:=(by have h:=aEx;rewrite [<-cb.eq_1,<-fW.eq_1]at h;exact h:ax 6=_)
def e_7:=(li Tryz.func7 rfl).trans (by cbv)
def axb:=(li Tryz.func8 rfl).trans (by cbv)
def BT:List KD:=dwK (ax 8) 0
def oh:=(by have h:=(ap0 axb 0).trans (by cbv);exact h:BT=_)
def e_8:=(by have h:=axb;rewrite [<-oh]at h;exact h:ax 8=_)
def e_9:=(li Tryz.func9 rfl).trans (by cbv)
def aEs:=(li Tryz.func10 rfl).trans (by cbv)
def aDi:=(li Tryz.func11 rfl).trans (by cbv)
def axc:=(li Tryz.func12 rfl).trans (by cbv)
def aEy:=(by have h:=axc;rewrite [<-aP.eq_1]at h;exact h:ax 12=_)
def an4:=(li Tryz.func13 rfl).trans (by cbv)
def Fs:KC:=kP (ax 13) 0
def kx:=(by have h:=(dP an4 0).trans (by cbv);rewrite [<-aP.eq_1]at h;exact h:Fs=_)
def avS:=(by have h:=an4;rewrite [<-aP.eq_1,<-fW.eq_1,<-kx]at h;exact h:ax 13=_)
def axd:=(li Tryz.func14 rfl).trans (by cbv)
def aEz:=(by have h:=axd;rewrite [<-bR.eq_1,<-aP.eq_1]at h;exact h:ax 14=_)
def axe:=(li Tryz.func15 rfl).trans (by cbv)
def avU:=(by have h:=axe;rewrite [<-cb.eq_1,<-fW.eq_1]at h;exact h:ax 15=_)
def axf:=(li Tryz.func16 rfl).trans (by cbv)
def aDj:=(by have h:=axf;rewrite [<-fW.eq_1]at h;exact h:ax 16=_)
def axg:=(li Tryz.func17 rfl).trans (by cbv)
def aEA:=(by have h:=axg;rewrite [<-eQ.eq_1]at h;exact h:ax 17=_)
def aDq:=(li Tryz.func18 rfl).trans (by cbv)
def an5:=(li Tryz.func19 rfl).trans (by cbv)
def tW:KC:=kP (ax 19) 0
def fI:=(by have h:=(dP an5 0).trans (by cbv);exact h:tW=_)
def aEB:=(by have h:=an5;rewrite [<-aP.eq_1,<-fM.eq_1,<-fI]at h;exact h:ax 19=_)
def an6:=(li Tryz.func20 rfl).trans (by cbv)
def vT:KC:=kP (ax 20) 0
def iP:=(by have h:=(dP an6 0).trans (by cbv);rewrite [<-aP.eq_1]at h;exact h:vT=_)
def aDo:=(by have h:=an6;rewrite [<-aP.eq_1,<-iP]at h;exact h:ax 20=_)
def an7:=(li Tryz.func21 rfl).trans (by cbv)
def qg:KC:=kP (ax 21) 0
def ij:=(by have h:=(dP an7 0).trans (by cbv);exact h:qg=_)
def aEn:=(by have h:=an7;rewrite [<-ij]at h;exact h:ax 21=_)
def aEp:=(li Tryz.func22 rfl).trans (by cbv)
def Xk:=(li Tryz.func23 rfl).trans (by cbv)
def D1:List KO:=yb (ax 23) 1
def cY:=(by have h:=(nd Xk 1).trans (by cbv);exact h:D1=_)
def D2:List KO:=yb (ax 23) 5
def iR:=(by have h:=(nd Xk 5).trans (by cbv);exact h:D2=_)
def qZ:KC:=kP (ax 23) 0
def fh:=(by have h:=(dP Xk 0).trans (by cbv);rewrite [<-iR]at h;exact h:qZ=_)
def q9:KC:=kP (ax 23) 1
def gE:=(by have h:=(dP Xk 1).trans (by cbv);exact h:q9=_)
def aEr:=(by have h:=Xk;rewrite [<-cY,<-iR,<-fh,<-gE]at h;exact h:ax 23=_)
def axh:=(li Tryz.func24 rfl).trans (by cbv)
def aDb:=(by have h:=axh;rewrite [<-aE.eq_1,<-aR.eq_1]at h;exact h:ax 24=_)
def axi:=(li Tryz.func25 rfl).trans (by cbv)
def aEC:=(by have h:=axi;rewrite [<-bR.eq_1,<-aP.eq_1]at h;exact h:ax 25=_)
def axj:=(li Tryz.func26 rfl).trans (by cbv)
def aC0:=(by have h:=axj;rewrite [<-aP.eq_1,<-eQ.eq_1]at h;exact h:ax 26=_)
def agT:=(li Tryz.func27 rfl).trans (by cbv)
def yG:KC:=kP (ax 27) 0
def jG:=(by have h:=(dP agT 0).trans (by cbv);exact h:yG=_)
def yH:KC:=kP (ax 27) 1
def lX:=(by have h:=(dP agT 1).trans (by cbv);rewrite [<-jG]at h;exact h:yH=_)
def aC7:=(by have h:=agT;rewrite [<-nJ.eq_1,<-eQ.eq_1,<-jG,<-lX]at h;exact h:ax 27=_)
def axk:=(li Tryz.func28 rfl).trans (by cbv)
def aC2:=(by have h:=axk;rewrite [<-aP.eq_1,<-gS.eq_1]at h;exact h:ax 28=_)
def aED:=(li Tryz.func29 rfl).trans (by cbv)
def avR:=(li Tryz.func30 rfl).trans (by cbv)
def an8:=(li Tryz.func31 rfl).trans (by cbv)
def uT:KC:=kP (ax 31) 0
def mB:=(by have h:=(dP an8 0).trans (by cbv);exact h:uT=_)
def aEE:=(by have h:=an8;rewrite [<-mB]at h;exact h:ax 31=_)
def axl:=(li Tryz.func32 rfl).trans (by cbv)
def aEF:=(by have h:=axl;rewrite [<-fW.eq_1]at h;exact h:ax 32=_)
def an9:=(li Tryz.func33 rfl).trans (by cbv)
def yn:KC:=kP (ax 33) 0
def iL:=(by have h:=(dP an9 0).trans (by cbv);rewrite [<-aE.eq_1]at h;exact h:yn=_)
def aEG:=(by have h:=an9;rewrite [<-aE.eq_1,<-iL]at h;exact h:ax 33=_)
def aEH:=(li Tryz.func34 rfl).trans (by cbv)
def axm:=(li Tryz.func35 rfl).trans (by cbv)
def aEI:=(by have h:=axm;rewrite [<-aP.eq_1]at h;exact h:ax 35=_)
def axn:=(li Tryz.func36 rfl).trans (by cbv)
def aEJ:=(by have h:=axn;rewrite [<-aP.eq_1]at h;exact h:ax 36=_)
def aEK:=(li Tryz.func37 rfl).trans (by cbv)
def aEL:=(li Tryz.func38 rfl).trans (by cbv)
def an_:=(li Tryz.func39 rfl).trans (by cbv)
def FP:List KO:=yb (ax 39) 0
def qi:=(by have h:=(nd an_ 0).trans (by cbv);rewrite [<-fW.eq_1]at h;exact h:FP=_)
def aEM:=(by have h:=an_;rewrite [<-fW.eq_1,<-qi]at h;exact h:ax 39=_)
def axo:=(li Tryz.func40 rfl).trans (by cbv)
def aDk:=(by have h:=axo;rewrite [<-aP.eq_1]at h;exact h:ax 40=_)
def aoa:=(li Tryz.func41 rfl).trans (by cbv)
def Ay:KC:=kP (ax 41) 0
def ni:=(by have h:=(dP aoa 0).trans (by cbv);rewrite [<-aP.eq_1,<-fW.eq_1]at h;exact h:Ay=_)
def aDl:=(by have h:=aoa;rewrite [<-aP.eq_1,<-fW.eq_1,<-ni]at h;exact h:ax 41=_)
def axp:=(li Tryz.func42 rfl).trans (by cbv)
def aEN:=(by have h:=axp;rewrite [<-fW.eq_1,<-aR.eq_1]at h;exact h:ax 42=_)
def axq:=(li Tryz.func43 rfl).trans (by cbv)
def aEO:=(by have h:=axq;rewrite [<-aE.eq_1]at h;exact h:ax 43=_)
def aEP:=(li Tryz.func44 rfl).trans (by cbv)
def aob:=(li Tryz.func45 rfl).trans (by cbv)
def Hc:List KD:=dwK (ax 45) 0
def nZ:=(by have h:=(ap0 aob 0).trans (by cbv);exact h:Hc=_)
def aEQ:=(by have h:=aob;rewrite [<-nZ]at h;exact h:ax 45=_)
def axr:=(li Tryz.func46 rfl).trans (by cbv)
def aER:=(by have h:=axr;rewrite [<-aP.eq_1]at h;exact h:ax 46=_)
def axs:=(li Tryz.func47 rfl).trans (by cbv)
def aEc:=(by have h:=axs;rewrite [<-eQ.eq_1,<-gS.eq_1]at h;exact h:ax 47=_)
def aES:=(li Tryz.func48 rfl).trans (by cbv)
def axt:=(li Tryz.func49 rfl).trans (by cbv)
def aC3:=(by have h:=axt;rewrite [<-eQ.eq_1]at h;exact h:ax 49=_)
def axu:=(li Tryz.func50 rfl).trans (by cbv)
def aC1:=(by have h:=axu;rewrite [<-eQ.eq_1]at h;exact h:ax 50=_)
def agU:=(li Tryz.func51 rfl).trans (by cbv)
def CI:List KO:=yb (ax 51) 9
def my:=(by have h:=(nd agU 9).trans (by cbv);rewrite [<-aR.eq_1]at h;exact h:CI=_)
def uJ:KC:=kP (ax 51) 0
def dk:=(by have h:=(dP agU 0).trans (by cbv);exact h:uJ=_)
def aDc:=(by have h:=agU;rewrite [<-aE.eq_1,<-aR.eq_1,<-dk,<-my]at h;exact h:ax 51=_)
def aDp:=(li Tryz.func52 rfl).trans (by cbv)
def aof:=(li Tryz.func53 rfl).trans (by cbv)
def BX:List KO:=yb (ax 53) 8
def gY:=(by have h:=(nd aof 8).trans (by cbv);rewrite [<-cx.eq_1]at h;exact h:BX=_)
def aET:=(by have h:=aof;rewrite [<-fM.eq_1,<-cx.eq_1,<-gY]at h;exact h:ax 53=_)
def aEU:=(li Tryz.func54 rfl).trans (by cbv)
def ayu:=(li Tryz.func55 rfl).trans (by cbv)
def aEV:=(by have h:=ayu;rewrite [<-aP.eq_1]at h;exact h:ax 55=_)
def ayv:=(li Tryz.func56 rfl).trans (by cbv)
def aEW:=(by have h:=ayv;rewrite [<-aP.eq_1,<-cx.eq_1]at h;exact h:ax 56=_)
def aEX:ax 57=some ⟨73,lV [dY 3 (YU 24 0),dY 4 (YU 24 1),dY 5 (YU 8 2),dY 6 (.alloc fM)] (.dO [3,4,5,6] (.Q (.draw [(7,[.I .u32 0,.I .u32 0,.I .u32 0,.I .u32 0,.I .u32 0,.I .u32 0,.I .u32 0,.I .u32 0])] [H (eG 16 0 3) 0 0,H (dY 17 (dW 8 16)) 0 0,H (eG 18 8 4) 0 0,H (dY 19 (dW 8 18)) 0 0,mI (dY 20 (qA 122 [17,19])) 0 1,H (eG 21 8 3) 0 1,H (dY 22 (dW 8 21)) 0 1,H (eG 23 0 4) 0 1,H (dY 24 (dW 8 23)) 0 1,mI (dY 25 (qA 122 [22,24])) 1 2,mI (dY 26 (qA 125 [20,25])) 2 3,mI (GA (GB 8 7 26)) 3 4]) (.dO [3,4,5,6,7] (.Q (.draw [(8,[.I .u32 0,.I .u32 0,.I .u32 0,.I .u32 0,.I .u32 0,.I .u32 0,.I .u32 0,.I .u32 0]),(9,[.I .u32 0,.I .u32 0,.I .u32 0,.I .u32 0,.I .u32 0,.I .u32 0,.I .u32 0,.I .u32 0])] [H (eG 27 0 3) 0 0,H (dY 28 (dW 8 27)) 0 0,H (eG 29 0 4) 0 0,H (dY 30 (dW 8 29)) 0 0,mI (dY 31 (qA 122 [28,30])) 0 1,H (eG 32 8 3) 0 1,H (dY 33 (dW 8 32)) 0 1,H (eG 34 8 4) 0 1,H (dY 35 (dW 8 34)) 0 1,mI (dY 36 (qA 122 [33,35])) 1 2,mI (GA (GB 8 8 31)) 2 3,mI (GA (GB 8 9 36)) 3 4]) (.dO [3,4,5,6,7,8,9] (lV [dY 37 (dW 8 9),dY 38 (dW 8 8),dY 39 (qA 125 [37,38]),dY 10 (.alloc cx),GA (GB 8 10 39)] (.dO [3,4,5,6,7,8,9,10] (lV [eG 40 16 3,dY 41 (dW 8 40),eG 42 16 4,dY 43 (dW 8 42),dY 44 (qA 122 [41,43]),dY 11 (.alloc cx),GA (GB 8 11 44)] (.dO [5,6,7,8,9,10,11] (lV [dY 45 (dW 8 11),dY 46 (dW 8 11),dY 47 (qA 122 [45,46]),dY 12 (.alloc cx),GA (GB 8 12 47)] (.dO [5,6,7,8,9,10,11,12] (.Q (.draw [(13,[.I .u32 0,.I .u32 0,.I .u32 0,.I .u32 0,.I .u32 0,.I .u32 0,.I .u32 0,.I .u32 0])] [H (dY 48 (dW 8 5)) 0 1,H (dY 49 (dW 8 8)) 0 0,H (dY 50 (dW 8 9)) 0 0,mI (dY 51 (qA 122 [49,50])) 0 1,mI (dY 52 (qA 122 [48,51])) 1 2,mI (GA (GB 8 13 52)) 2 3]) (.dO [6,7,10,11,12,13] (.Q (.draw [(14,[.I .u32 0,.I .u32 0,.I .u32 0,.I .u32 0,.I .u32 0,.I .u32 0,.I .u32 0,.I .u32 0]),(15,[.I .u32 0,.I .u32 0,.I .u32 0,.I .u32 0,.I .u32 0,.I .u32 0,.I .u32 0,.I .u32 0])] [H (dY 53 (dW 8 12)) 0 0,H (dY 54 (dW 8 13)) 0 0,mI (dY 55 (qA 125 [53,54])) 0 1,H (dY 56 (dW 8 12)) 0 1,H (dY 57 (dW 8 13)) 0 1,mI (dY 58 (qA 124 [56,57])) 1 2,mI (GA (GB 8 14 55)) 2 3,mI (GA (GB 8 15 58)) 3 4]) (.dO [6,7,10,11,14,15] (.Q (.draw [] [H (dY 59 (dW 8 7)) 0 0,H (dY 60 (dW 8 11)) 0 0,mI (dY 61 (qA 122 [59,60])) 0 1,H (dY 62 (dW 8 15)) 0 1,mI (dY 63 (qA 122 [61,62])) 1 2,H (dY 64 (dW 8 10)) 0 2,H (dY 65 (dW 8 11)) 0 2,mI (dY 66 (qA 122 [64,65])) 2 3,H (dY 67 (dW 8 14)) 0 3,mI (dY 68 (qA 122 [66,67])) 3 4,H (dY 69 (dW 8 14)) 0 4,H (dY 70 (dW 8 15)) 0 4,mI (dY 71 (qA 122 [69,70])) 4 5,H (cz 72 (.bld fM [(0,8,.t 63),(8,8,.t 68),(16,8,.t 71)])) 5 5,mI (GA (GB 24 6 72)) 5 6]) (Il [6]))))))))))))))))),[.C 6 (.A 24)]⟩:=(li Tryz.func57 rfl).trans (by kernel_rfl)
def aog:=(li Tryz.func58 rfl).trans (by cbv)
def xG:KC:=kP (ax 58) 0
def hJ:=(by have h:=(dP aog 0).trans (by cbv);exact h:xG=_)
def aEY:=(by have h:=aog;rewrite [<-fM.eq_1,<-cx.eq_1,<-hJ]at h;exact h:ax 58=_)
def ayw:=(li Tryz.func59 rfl).trans (by cbv)
def aEZ:=(by have h:=ayw;rewrite [<-fM.eq_1,<-cx.eq_1]at h;exact h:ax 59=_)
def ayx:=(li Tryz.func60 rfl).trans (by cbv)
def aC4:=(by have h:=ayx;rewrite [<-fM.eq_1,<-cx.eq_1]at h;exact h:ax 60=_)
def ayy:=(li Tryz.func61 rfl).trans (by cbv)
def aE0:=(by have h:=ayy;rewrite [<-cx.eq_1]at h;exact h:ax 61=_)
def aE1:=(li Tryz.func62 rfl).trans (by cbv)
def qy:KC:=.dO [1,3,4] (.Q (lV [ez 49 4,eG 50 18 1,ds 51 50,cz 52 (Ho 51),cz 53 (qd .lss 49 52)] (.cond (.t 53) .skip (.dO [1,3] (.exit 0)))) (.Q (.block 1 (.draw [] [H (ez 56 3) 0 1,H (eG 57 18 1) 0 0,H (ds 58 57) 0 0,H (ez 59 4) 0 0,H (cz 60 (Ee 12 58 59)) 0 0,H (eG 61 0 60) 0 0,H (dY 62 (dW 6 61)) 0 0,mI (dY 63 (qA 137 [62])) 0 1,mI (dY 64 (q_a 1 56 63)) 1 2,H (eG 65 18 1) 0 2,H (ds 66 65) 0 2,H (ez 67 4) 0 2,H (cz 68 (Ee 12 66 67)) 0 2,H (eG 69 6 68) 0 2,H (dY 70 (dW 6 69)) 0 2,mI (dY 71 (qA 137 [70])) 2 3,mI (dY 72 (q_a 1 64 71)) 3 4,H (ez 3 72) 4 4])) (.ops [ez 54 4,cz 55 (rq .add 54 1),ez 4 55])))
def mH:=qy.eq_1
def aE2:ax 63=some ⟨84,lV [dY 1 (YU 20 0),cz 2 (wj .aw)] (.Q (.draw [] [H (eG 5 0 1) 0 1,H (ds 6 5) 0 1,H (cz 7 (q_W .u8 6)) 0 1,H (dY 8 (.bsl 1 [.I .u8 0] 1 [(0,.t 7)])) 0 1,H (eG 9 1 1) 0 0,H (ds 10 9) 0 0,H (dY 11 (.byt (.t 10))) 0 0,mI (dY 12 (qA 138 [11])) 0 1,mI (dY 13 (q_a 1 8 12)) 1 2,H (ez 3 13) 2 2]) (.Q (lV [eG 14 0 1,ds 15 14,dY 16 (qA 139 [15])] (ux 16 (.ops [ez 17 3,eG 18 2 1,ds 19 18,dY 20 (.byt (.t 19)),dY 21 (qA 138 [20]),dY 22 (q_a 1 17 21),ez 3 22]))) (.Q (lV [eG 23 0 1,ds 24 23,dY 25 (qA 140 [24])] (ux 25 (.draw [] [H (ez 26 3) 0 1,H (eG 27 3 1) 0 0,H (dY 28 (dW 3 27)) 0 0,mI (dY 29 (qA 141 [28])) 0 1,mI (dY 30 (q_a 1 26 29)) 1 2,H (eG 31 6 1) 0 2,H (dY 32 (dW 6 31)) 0 2,mI (dY 33 (qA 137 [32])) 2 3,mI (dY 34 (q_a 1 30 33)) 3 4,H (ez 3 34) 4 4]))) (.Q (lV [eG 35 0 1,ds 36 35,cz 37 (rq .eql 36 8)] (ux 37 (.Q (.draw [] [H (ez 38 3) 0 1,H (eG 39 12 1) 0 0,H (dY 40 (dW 6 39)) 0 0,mI (dY 41 (qA 137 [40])) 0 1,mI (dY 42 (q_a 1 38 41)) 1 2,H (eG 43 18 1) 0 2,H (ds 44 43) 0 2,H (cz 45 (Ho 44)) 0 2,H (cz 46 (q_W .u8 45)) 0 2,H (dY 47 (.bsl 1 [.I .u8 0] 1 [(0,.t 46)])) 0 2,mI (dY 48 (q_a 1 42 47)) 2 3,H (ez 3 48) 3 3]) (lV [cz 4 (wj (.I .i64 0))] (.block 0 (.L qy)))))) (.Q (lV [eG 73 0 1,ds 74 73,cz 75 (rq .gtr 74 8)] (ux 75 (.ops [ez 76 3,eG 77 19 1,ds 78 77,cz 79 (.Mq 20 (.t 78) (yF 0)),dY 80 (dW 20 79),dY 81 (qA 63 [80]),dY 82 (q_a 1 76 81),ez 3 82]))) (lV [ez 83 3,ez 2 83] (Il [2]))))))),[.tmp 2]⟩:=(li Tryz.func63 rfl).trans (by kernel_rfl)
def aoi:=(li Tryz.func64 rfl).trans (by cbv)
def vU:KC:=kP (ax 64) 0
def ky:=(by have h:=(dP aoi 0).trans (by cbv);exact h:vU=_)
def aEo:=(by have h:=aoi;rewrite [<-ky]at h;exact h:ax 64=_)
def aEq:=(li Tryz.func65 rfl).trans (by cbv)
def aoj:=(li Tryz.func66 rfl).trans (by cbv)
def BN:KC:=kP (ax 66) 0
def mb:=(by have h:=(dP aoj 0).trans (by cbv);exact h:BN=_)
def aDa:=(by have h:=aoj;rewrite [<-mb]at h;exact h:ax 66=_)
def abQ:=(li Tryz.func67 rfl).trans (by cbv)
def Us:List KO:=yb (ax 67) 6
def FX:=(by have h:=(nd abQ 6).trans (by cbv);exact h:Us=_)
def Ut:List KO:=yb (ax 67) 8
def FY:=(by have h:=(nd abQ 8).trans (by cbv);exact h:Ut=_)
def Uu:List KO:=yb (ax 67) 12
def FZ:=(by have h:=(nd abQ 12).trans (by cbv);exact h:Uu=_)
def aE3:=(by have h:=abQ;rewrite [<-ah.eq_1,<-FX,<-FY,<-FZ]at h;exact h:ax 67=_)
def aok:=(li Tryz.func68 rfl).trans (by cbv)
def QH:List KO:=yb (ax 68) 1
def jZ:=(by have h:=(nd aok 1).trans (by cbv);exact h:QH=_)
def aC9:=(by have h:=aok;rewrite [<-jZ]at h;exact h:ax 68=_)
def aEv:=(li Tryz.func69 rfl).trans (by cbv)
def aol:=(li Tryz.func70 rfl).trans (by cbv)
def Xl:List KO:=yb (ax 70) 1
def qU:=(by have h:=(nd aol 1).trans (by cbv);exact h:Xl=_)
def aC_:=(by have h:=aol;rewrite [<-qU]at h;exact h:ax 70=_)
def abR:=(li Tryz.func71 rfl).trans (by cbv)
def AN:KC:=kP (ax 71) 0
def nm:=(by have h:=(dP abR 0).trans (by cbv);exact h:AN=_)
def AO:KC:=kP (ax 71) 1
def nv:=(by have h:=(dP abR 1).trans (by cbv);exact h:AO=_)
def AP:KC:=kP (ax 71) 2
def ny:=(by have h:=(dP abR 2).trans (by cbv);exact h:AP=_)
def aE4:=(by have h:=abR;rewrite [<-iD.eq_1,<-bR.eq_1,<-cO.eq_1,<-nm,<-nv,<-ny]at h;exact h:ax 71=_)
def azd:=(li Tryz.func72 rfl).trans (by cbv)
def aEb:=(by have h:=azd;rewrite [<-eQ.eq_1]at h;exact h:ax 72=_)
def aom:=(li Tryz.func73 rfl).trans (by cbv)
def qf:KC:=kP (ax 73) 0
def gD:=(by have h:=(dP aom 0).trans (by cbv);exact h:qf=_)
def aD4:=(by have h:=aom;rewrite [<-gS.eq_1,<-gD]at h;exact h:ax 73=_)
def aon:=(li Tryz.func74 rfl).trans (by cbv)
def sx:KC:=kP (ax 74) 0
def iH:=(by have h:=(dP aon 0).trans (by cbv);exact h:sx=_)
def aC6:=(by have h:=aon;rewrite [<-nJ.eq_1,<-iH]at h;exact h:ax 74=_)
def aze:=(li Tryz.func75 rfl).trans (by cbv)
def aEa:=(by have h:=aze;rewrite [<-eQ.eq_1]at h;exact h:ax 75=_)
def aD5:ax 76=some ⟨60,lV [dY 1 (YU 20 0),dY 2 (.alloc eQ)] (.Q (.draw [(3,[.I .u64 0,.I .u64 0,.I .u64 0,.I .u64 0,.I .u64 0]),(4,[.I .u64 0,.I .u64 0,.I .u64 0,.I .u64 0,.I .u64 0]),(5,[.I .u64 0,.I .u64 0,.I .u64 0,.I .u64 0,.I .u64 0])] [H (eG 11 0 1) 0 0,H (dY 12 (dW 5 11)) 0 0,H (eG 13 0 1) 0 0,H (dY 14 (dW 5 13)) 0 0,mI (dY 15 (qA 79 [12,14])) 0 1,H (eG 16 5 1) 0 1,H (dY 17 (dW 5 16)) 0 1,H (eG 18 5 1) 0 1,H (dY 19 (dW 5 18)) 0 1,mI (dY 20 (qA 79 [17,19])) 1 2,H (eG 21 10 1) 0 2,H (dY 22 (dW 5 21)) 0 2,H (eG 23 10 1) 0 2,H (dY 24 (dW 5 23)) 0 2,mI (dY 25 (qA 79 [22,24])) 2 3,mI (GA (GB 5 3 15)) 3 4,mI (GA (GB 5 4 20)) 4 5,mI (GA (GB 5 5 25)) 5 6]) (.Q (.draw [(6,[.I .u64 0,.I .u64 0,.I .u64 0,.I .u64 0,.I .u64 0]),(7,[.I .u64 0,.I .u64 0,.I .u64 0,.I .u64 0,.I .u64 0])] [H (dY 26 (dW 5 3)) 0 0,H (dY 27 (dW 5 4)) 0 0,mI (dY 28 (qA 108 [26,27])) 0 1,H (eG 29 0 1) 0 1,H (dY 30 (dW 5 29)) 0 1,H (eG 31 5 1) 0 1,H (dY 32 (dW 5 31)) 0 1,mI (dY 33 (qA 108 [30,32])) 1 2,mI (GA (GB 5 6 28)) 2 3,mI (GA (GB 5 7 33)) 3 4]) (.Q (.draw [(8,[.I .u64 0,.I .u64 0,.I .u64 0,.I .u64 0,.I .u64 0]),(9,[.I .u64 0,.I .u64 0,.I .u64 0,.I .u64 0,.I .u64 0])] [H (dY 34 (dW 5 6)) 0 1,H (dY 35 (dW 5 7)) 0 0,H (dY 36 (dW 5 7)) 0 0,mI (dY 37 (qA 79 [35,36])) 0 1,mI (dY 38 (qA 106 [34,37])) 1 2,H (dY 39 (dW 5 3)) 0 2,H (dY 40 (dW 5 4)) 0 2,mI (dY 41 (qA 106 [39,40])) 2 3,mI (GA (GB 5 8 38)) 3 4,mI (GA (GB 5 9 41)) 4 5]) (.Q (.draw [(10,[.I .u64 0,.I .u64 0,.I .u64 0,.I .u64 0,.I .u64 0])] [H (dY 42 (dW 5 5)) 0 0,H (dY 43 (dW 5 5)) 0 0,mI (dY 44 (qA 108 [42,43])) 0 1,H (dY 45 (dW 5 9)) 0 1,mI (dY 46 (qA 108 [44,45])) 1 2,mI (GA (GB 5 10 46)) 2 3]) (.Q (.draw [] [H (dY 47 (dW 5 8)) 0 0,H (dY 48 (dW 5 10)) 0 0,mI (dY 49 (qA 79 [47,48])) 0 1,H (dY 50 (dW 5 9)) 0 1,H (dY 51 (dW 5 6)) 0 1,mI (dY 52 (qA 79 [50,51])) 1 2,H (dY 53 (dW 5 10)) 0 2,H (dY 54 (dW 5 9)) 0 2,mI (dY 55 (qA 79 [53,54])) 2 3,H (dY 56 (dW 5 8)) 0 3,H (dY 57 (dW 5 6)) 0 3,mI (dY 58 (qA 79 [56,57])) 3 4,H (cz 59 (.bld eQ [(0,5,.t 49),(5,5,.t 52),(10,5,.t 55),(15,5,.t 58)])) 4 4,mI (GA (GB 20 2 59)) 4 5]) (Il [2])))))),[.C 2 (.A 20)]⟩:=(li Tryz.func76 rfl).trans (by kernel_rfl)
def aD6:ax 77=some ⟨75,lV [dY 2 (YU 20 0),dY 3 (YU 20 1),dY 4 (.alloc eQ)] (.Q (.draw [(5,[.I .u64 0,.I .u64 0,.I .u64 0,.I .u64 0,.I .u64 0])] [H (eG 13 5 2) 0 0,H (dY 14 (dW 5 13)) 0 0,H (eG 15 0 2) 0 0,H (dY 16 (dW 5 15)) 0 0,mI (dY 17 (qA 106 [14,16])) 0 1,H (eG 18 5 3) 0 1,H (dY 19 (dW 5 18)) 0 1,H (eG 20 0 3) 0 1,H (dY 21 (dW 5 20)) 0 1,mI (dY 22 (qA 106 [19,21])) 1 2,mI (dY 23 (qA 79 [17,22])) 2 3,mI (GA (GB 5 5 23)) 3 4]) (.Q (.draw [(6,[.I .u64 0,.I .u64 0,.I .u64 0,.I .u64 0,.I .u64 0])] [H (eG 24 5 2) 0 0,H (dY 25 (dW 5 24)) 0 0,H (eG 26 0 2) 0 0,H (dY 27 (dW 5 26)) 0 0,mI (dY 28 (qA 108 [25,27])) 0 1,H (eG 29 5 3) 0 1,H (dY 30 (dW 5 29)) 0 1,H (eG 31 0 3) 0 1,H (dY 32 (dW 5 31)) 0 1,mI (dY 33 (qA 108 [30,32])) 1 2,mI (dY 34 (qA 79 [28,33])) 2 3,mI (GA (GB 5 6 34)) 3 4]) (.Q (.draw [(7,[.I .u64 0,.I .u64 0,.I .u64 0,.I .u64 0,.I .u64 0])] [H (eG 35 15 2) 0 1,H (dY 36 (dW 5 35)) 0 1,mI (dY 37 (qA 159 [])) 0 1,mI (dY 38 (qA 79 [36,37])) 1 2,H (eG 39 15 3) 0 2,H (dY 40 (dW 5 39)) 0 2,mI (dY 41 (qA 79 [38,40])) 2 3,mI (GA (GB 5 7 41)) 3 4]) (.Q (.draw [(8,[.I .u64 0,.I .u64 0,.I .u64 0,.I .u64 0,.I .u64 0])] [H (eG 42 10 2) 0 0,H (dY 43 (dW 5 42)) 0 0,H (eG 44 10 2) 0 0,H (dY 45 (dW 5 44)) 0 0,mI (dY 46 (qA 108 [43,45])) 0 1,H (eG 47 10 3) 0 1,H (dY 48 (dW 5 47)) 0 1,mI (dY 49 (qA 79 [46,48])) 1 2,mI (GA (GB 5 8 49)) 2 3]) (.Q (.draw [(9,[.I .u64 0,.I .u64 0,.I .u64 0,.I .u64 0,.I .u64 0]),(10,[.I .u64 0,.I .u64 0,.I .u64 0,.I .u64 0,.I .u64 0]),(11,[.I .u64 0,.I .u64 0,.I .u64 0,.I .u64 0,.I .u64 0]),(12,[.I .u64 0,.I .u64 0,.I .u64 0,.I .u64 0,.I .u64 0])] [H (dY 50 (dW 5 6)) 0 0,H (dY 51 (dW 5 5)) 0 0,mI (dY 52 (qA 106 [50,51])) 0 1,H (dY 53 (dW 5 8)) 0 1,H (dY 54 (dW 5 7)) 0 1,mI (dY 55 (qA 106 [53,54])) 1 2,H (dY 56 (dW 5 8)) 0 2,H (dY 57 (dW 5 7)) 0 2,mI (dY 58 (qA 108 [56,57])) 2 3,H (dY 59 (dW 5 6)) 0 3,H (dY 60 (dW 5 5)) 0 3,mI (dY 61 (qA 108 [59,60])) 3 4,mI (GA (GB 5 9 52)) 4 5,mI (GA (GB 5 10 55)) 5 6,mI (GA (GB 5 11 58)) 6 7,mI (GA (GB 5 12 61)) 7 8]) (.Q (.draw [] [H (dY 62 (dW 5 9)) 0 0,H (dY 63 (dW 5 10)) 0 0,mI (dY 64 (qA 79 [62,63])) 0 1,H (dY 65 (dW 5 11)) 0 1,H (dY 66 (dW 5 12)) 0 1,mI (dY 67 (qA 79 [65,66])) 1 2,H (dY 68 (dW 5 10)) 0 2,H (dY 69 (dW 5 11)) 0 2,mI (dY 70 (qA 79 [68,69])) 2 3,H (dY 71 (dW 5 9)) 0 3,H (dY 72 (dW 5 12)) 0 3,mI (dY 73 (qA 79 [71,72])) 3 4,H (cz 74 (.bld eQ [(0,5,.t 64),(5,5,.t 67),(10,5,.t 70),(15,5,.t 73)])) 4 4,mI (GA (GB 20 4 74)) 4 5]) (Il [4]))))))),[.C 4 (.A 20)]⟩:=(li Tryz.func77 rfl).trans (by kernel_rfl)
def azf:=(li Tryz.func78 rfl).trans (by cbv)
def aDT:=(by have h:=azf;rewrite [<-gS.eq_1]at h;exact h:ax 78=_)
def abS:=(li Tryz.func79 rfl).trans (by cbv)
def me:KC:=kP (ax 79) 0
def cr:=(by have h:=(dP abS 0).trans (by cbv);exact h:me=_)
def tK:KC:=kP (ax 79) 1
def mU:=(by have h:=(dP abS 1).trans (by cbv);rewrite [<-cr]at h;exact h:tK=_)
def z7:KC:=kP (ax 79) 2
def mV:=(by have h:=(dP abS 2).trans (by cbv);exact h:z7=_)
def aDO:=(by have h:=abS;rewrite [<-Xm.eq_1,<-gS.eq_1,<-cr,<-mU,<-mV]at h;exact h:ax 79=_)
def ahJ:=(li Tryz.func80 rfl).trans (by cbv)
def xp:KC:=kP (ax 80) 0
def eE:=(by have h:=(dP ahJ 0).trans (by cbv);exact h:xp=_)
def jb:KC:=kP (ax 80) 1
def cU:=(by have h:=(dP ahJ 1).trans (by cbv);rewrite [<-eE]at h;exact h:jb=_)
def aDM:=(by have h:=ahJ;rewrite [<-aP.eq_1,<-eE,<-cU]at h;exact h:ax 80=_)
def aEk:=(li Tryz.func81 rfl).trans (by cbv)
def aE5:=(li Tryz.func82 rfl).trans (by cbv)
def aE6:=(li Tryz.func83 rfl).trans (by cbv)
def aEu:=(li Tryz.func84 rfl).trans (by cbv)
def azg:=(li Tryz.func85 rfl).trans (by cbv)
def aE7:=(by have h:=azg;rewrite [<-fW.eq_1]at h;exact h:ax 85=_)
end
end Go.Proofs.YtiaklhkdbokkhaaGreat.am
