/- Parts. No condition. -/
import Derived.Carry
import Derived.ChangeSame
import Derived.Lib.DecodeN
import Derived.Test.YthiocmkadpdekaaGreatDoorProg
import Derived.KernelRfl
import Derived.Maps.AppendAt
import Derived.Test.YthiocmkadpdekaaGreatDoorRows
import Derived.LaidLaws
import Derived.LaidHandle
import Derived.Lib.LaidTab
import Derived.Handed
import Derived.ChangeVars
import Derived.JoinedOf
import Derived.Stop.Joined
import Derived.ProofKit
import Derived.Test.YthiocmkadpdekaaGreatDoorSF
set_option linter.all false
namespace Go.Proofs.YthiocmkadpdekaaGreatDoor.am
open Go Go.RowKit
section
section
variable{lib:FuncId→Option KF}{nk:NK}{call:Caller}
def nextK(call:Caller)(r:List KO):Option (AV × KEnv × St)→Option (KEnv × St)
 |some (_,K,S)=>evKs call r K S
 |none=>none
def nextT(call:Caller)(r:List KD)(ss:List St)(ls:List KLd)(d:KD)(K0:KEnv):Option (AV × KEnv × St)→Option (KEnv × St × List St × List KLd)
 |some (v,K,S)=>evKTr call r K S (if d.eff then ss++[S]else ss) (ldK K0 d v ls)
 |none=>none
def putK(K:KEnv)(d:Option Nat):Option (AV × List (Option Nat) × St)→Option (AV × KEnv × St)
 |some (v,tips,S)=>some (v,K.put d v tips,S)
 |none=>none
def goK(call:Caller)(K:KEnv)(S:St)(d:Option Nat)(op:KOp):Option Bool→Option (AV × KEnv × St)
 |some true=>putK K d (evK1 call K S op)
 |some false=>some (.undef,K.put d (.tup []) K.tips,S)
 |none=>none
def gdV(want:Bool):AV→Option Bool
 |.bool b=>some (b==want)
 |.tup []=>some false
 |_=>none
def endD(x:Option (KEnv × St × List St × List KLd)):Option (KEnv × St):=
 match x with
 |some (K,S,ss,ls)=>if ldsOK ss ls then some (K,S)else none
 |none=>none
def ldV(d:Nat)(h:Nat)(K0:KEnv)(v:AV)(ls:List KLd)(op:KOp):Option Bool→List KLd
 |some true=>match op with
  |.load sh p=>⟨d,h,sh,KE.ev K0.sl p,v⟩::ls
  |_=>ls
 |_=>ls
@[simp]theorem evKs_nil(K:KEnv)(S:St):evKs call [] K S=some (K,S):=rfl
@[simp]theorem evKs_cons(o:KO)(r:List KO)(K:KEnv)(S:St):evKs call (o::r) K S=nextK call r (evKO call K S o):=by
  simp only[evKs,nextK]
  split<;>simp_all
@[simp]theorem nextK_some(r:List KO)(v:AV)(K:KEnv)(S:St):nextK call r (some (v,K,S))=evKs call r K S:=rfl
@[simp]theorem nextK_none(r:List KO):nextK call r none=none:=rfl
@[simp]theorem evKTr_nil(K:KEnv)(S:St)(ss:List St)(ls:List KLd):evKTr call [] K S ss ls=some (K,S,ss,ls):=rfl
@[simp]theorem evKTr_cons(d:KD)(r:List KD)(K:KEnv)(S:St)(ss:List St)(ls:List KLd):evKTr call (d::r) K S ss ls=nextT call r ss ls d K (evKO call K S d.o):=by
  simp only[evKTr,nextT]
  split<;>simp_all
@[simp]theorem nextT_some(r:List KD)(ss:List St)(ls:List KLd)(o:KO)(e:Bool)(lo hi:Nat)(K0:KEnv)(v:AV)(K:KEnv)(S:St):
 nextT call r ss ls ⟨o,e,lo,hi⟩ K0 (some (v,K,S))=evKTr call r K S (if e then ss++[S]else ss) (ldV lo hi K0 v ls o.op (gdK K0 o.gd)):=by
 simp only[nextT,ldK,ldV]
 congr 1
 cases gdK K0 o.gd with
 |none=>rfl
 |some b=>cases b<;>cases o.op<;>rfl
@[simp]theorem nextT_none(r:List KD)(ss:List St)(ls:List KLd)(d:KD)(K0:KEnv):nextT call r ss ls d K0 none=none:=rfl
@[simp]theorem ldV_p(lo hi:Nat)(K0:KEnv)(v:AV)(ls:List KLd)(k:KP)(g:Option Bool):ldV lo hi K0 v ls (.p k) g=ls:=by cases g with|none=>rfl|some b=>cases b<;>rfl
@[simp]theorem ldV_call(lo hi:Nat)(K0:KEnv)(v:AV)(ls:List KLd)(f:KV)(a:List KV)(g:Option Bool):ldV lo hi K0 v ls (.call f a) g=ls:=by cases g with|none=>rfl|some b=>cases b<;>rfl
@[simp]theorem ldV_app(lo hi:Nat)(K0:KEnv)(v:AV)(ls:List KLd)(n:Nat)(f a:KV)(g:Option Bool):ldV lo hi K0 v ls (.app n f a) g=ls:=by cases g with|none=>rfl|some b=>cases b<;>rfl
@[simp]theorem ldV_store(lo hi:Nat)(K0:KEnv)(v:AV)(ls:List KLd)(n:Nat)(f a:KV)(g:Option Bool):ldV lo hi K0 v ls (.store n f a) g=ls:=by cases g with|none=>rfl|some b=>cases b<;>rfl
@[simp]theorem ldV_bsl(lo hi:Nat)(K0:KEnv)(v:AV)(ls:List KLd)(a:Nat)(z:List AV)(n:Nat)(ps:List (Nat × KV))(g:Option Bool):ldV lo hi K0 v ls (.bsl a z n ps) g=ls:=by cases g with|none=>rfl|some b=>cases b<;>rfl
@[simp]theorem ldV_load(lo hi:Nat)(K0:KEnv)(v:AV)(ls:List KLd)(sh:Sh)(p:KV):ldV lo hi K0 v ls (.load sh p) (some true)=⟨lo,hi,sh,KE.ev K0.sl p,v⟩::ls:=rfl
@[simp]theorem ldV_false(lo hi:Nat)(K0:KEnv)(v:AV)(ls:List KLd)(op:KOp):ldV lo hi K0 v ls op (some false)=ls:=rfl
@[simp]theorem evKO_mk(K:KEnv)(S:St)(d:Option Nat)(g:Option (Nat × Bool))(op:KOp):evKO call K S ⟨d,g,op⟩=goK call K S d op (gdK K g):=by
  simp only[evKO,goK]
  cases gdK K g with
  |none=>rfl
  |some b=>
   cases b with
   |false=>rfl
   |true=>
    simp only[putK]
    cases evK1 call K S op<;>rfl
@[simp]theorem goK_true(K:KEnv)(S:St)(d:Option Nat)(op:KOp):goK call K S d op (some true)=putK K d (evK1 call K S op):=rfl
@[simp]theorem goK_false(K:KEnv)(S:St)(d:Option Nat)(op:KOp):goK call K S d op (some false)=some (.undef,K.put d (.tup []) K.tips,S):=rfl
@[simp]theorem putK_some(K:KEnv)(d:Option Nat)(v:AV)(tips:List (Option Nat))(S:St):putK K d (some (v,tips,S))=some (v,K.put d v tips,S):=rfl
@[simp]theorem putK_none(K:KEnv)(d:Option Nat):putK K d none=none:=rfl
@[simp]theorem gdK_none(K:KEnv):gdK K none=some true:=rfl
@[simp]theorem gdK_some(K:KEnv)(t:Nat)(want:Bool):gdK K (some (t,want))=gdV want (KE.get K.sl t):=by simp only[gdK,gdV];split<;>simp_all
@[simp]theorem gdV_true(b:Bool):gdV true (.bool b)=some b:=by cases b<;>rfl
@[simp]theorem gdV_false(b:Bool):gdV false (.bool b)=some (!b):=by cases b<;>rfl
@[simp]theorem gdV_tup(w:Bool):gdV w (.tup [])=some false:=rfl
@[simp]theorem put_some(sl:KE)(tips:List (Option Nat))(nb:Nat)(d:Nat)(v:AV)(tips':List (Option Nat)):KEnv.put ⟨sl,tips,nb⟩ (some d) v tips'=⟨(d,v)::sl,tips',nb⟩:=rfl
@[simp]theorem put_none(sl:KE)(tips:List (Option Nat))(nb:Nat)(v:AV)(tips':List (Option Nat)):KEnv.put ⟨sl,tips,nb⟩ none v tips'=⟨sl,tips',nb⟩:=rfl
@[simp]theorem get_nil(t:Nat):KE.get [] t=.undef:=rfl
@[simp]theorem get_cons(d:Nat)(v:AV)(r:KE)(t:Nat):KE.get ((d,v)::r) t=if d=t then v else KE.get r t:=rfl
@[simp]theorem ev_t(E:KE)(n:Nat):KE.ev E (.t n)=KE.get E n:=rfl
@[simp]theorem ev_c(E:KE)(v:AV):KE.ev E (.c v)=v:=rfl
@[simp]theorem evKD_eq(al:List (Nat × List AV))(l:List KD)(K:KEnv)(S:St):evKD call al l K S=endD (evKTr call l (evKAl al K S).1 (evKAl al K S).2 [(evKAl al K S).2] []):=by
  unfold evKD endD
  split<;>simp_all
@[simp]theorem endD_some(K:KEnv)(S:St)(ss:List St)(ls:List KLd):endD (some (K,S,ss,ls))=if ldsOK ss ls then some (K,S)else none:=rfl
@[simp]theorem endD_none:endD none=none:=rfl
@[simp]theorem evKAl_nil(K:KEnv)(S:St):evKAl [] K S=(K,S):=rfl
@[simp]theorem evKAl_cons(d:Nat)(z:List AV)(r:List (Nat × List AV))(K:KEnv)(S:St):evKAl ((d,z)::r) K S=evKAl r (K.put (some d) (alRef S.length z) K.tips) (S++[alBox z]):=rfl
@[simp]theorem alBox_nil:alBox []=.mem [] [] false:=rfl
@[simp]theorem alRef_nil(n:Nat):alRef n []=.ptr n 0:=rfl
@[simp]theorem alBox_two(a b:AV)(r:List AV):alBox (a::b::r)=.mem (a::b::r) [] false:=by cases a<;>rfl
@[simp]theorem alRef_two(n:Nat)(a b:AV)(r:List AV):alRef n (a::b::r)=.ptr n 0:=by cases a<;>rfl
@[simp]theorem alBox_tup(l:List AV):alBox [.tup l]=.map []:=rfl
@[simp]theorem alRef_tup(n:Nat)(l:List AV):alRef n [.tup l]=.mref n:=rfl
@[simp]theorem alBox_int(k:IntKind)(n:Int):alBox [.int k n]=.mem [.int k n] [] false:=rfl
@[simp]theorem alRef_int(m:Nat)(k:IntKind)(n:Int):alRef m [.int k n]=.ptr m 0:=rfl
@[simp]theorem alBox_bool(b:Bool):alBox [.bool b]=.mem [.bool b] [] false:=rfl
@[simp]theorem alRef_bool(m:Nat)(b:Bool):alRef m [.bool b]=.ptr m 0:=rfl
@[simp]theorem alBox_str(b:List UInt8):alBox [.str b]=.mem [.str b] [] false:=rfl
@[simp]theorem alRef_str(m:Nat)(b:List UInt8):alRef m [.str b]=.ptr m 0:=rfl
@[simp]theorem alBox_nils:alBox [.nils]=.mem [.nils] [] false:=rfl
@[simp]theorem alRef_nils(m:Nat):alRef m [.nils]=.ptr m 0:=rfl
@[simp]theorem alBox_nilp:alBox [.nilp]=.mem [.nilp] [] false:=rfl
@[simp]theorem alRef_nilp(m:Nat):alRef m [.nilp]=.ptr m 0:=rfl
@[simp]theorem alBox_nili:alBox [.nili]=.mem [.nili] [] false:=rfl
@[simp]theorem alRef_nili(m:Nat):alRef m [.nili]=.ptr m 0:=rfl
@[simp]theorem alBox_nilfn:alBox [.nilfn]=.mem [.nilfn] [] false:=rfl
@[simp]theorem alRef_nilfn(m:Nat):alRef m [.nilfn]=.ptr m 0:=rfl
@[simp]theorem alBox_nilm:alBox [.nilm]=.mem [.nilm] [] false:=rfl
@[simp]theorem alRef_nilm(m:Nat):alRef m [.nilm]=.ptr m 0:=rfl
@[simp]theorem ldsOK_nil(ss:List St):ldsOK ss []=true:=rfl
def ldOK1(l:KLd)(S:St):Bool:=match loadK S l.sh l.at_ with
 |some v=>avEq v l.val
 |none=>false
@[simp]theorem ldsOK_cons(ss:List St)(l:KLd)(ls:List KLd):ldsOK ss (l::ls)=(((ss.take (l.hi+1)).drop l.lo).all (ldOK1 l)&&ldsOK ss ls):=rfl
mutual
theorem avEq_refl:∀a:AV,avEq a a=true
 |.undef=>rfl
 |.bool b=>by simp[avEq]
 |.int k n=>by simp[avEq]
 |.str s=>by simp[avEq]
 |.nilp=>rfl
 |.ptr i o=>by simp[avEq]
 |.rptr r cs o=>by simp[avEq,avEqL_refl cs]
 |.nils=>rfl
 |.sl r sz es=>by simp[avEq,avEqLL_refl es]
 |.aref i o l c z=>by simp[avEq]
 |.oref i o l z=>by simp[avEq]
 |.fn f a b=>by simp[avEq,avEqL_refl a,avEqL_refl b]
 |.nilfn=>rfl
 |.ifc t v=>by simp[avEq,avEq_refl v]
 |.nili=>rfl
 |.nilm=>rfl
 |.mref i=>by simp[avEq]
 |.agg cs=>by simp[avEq,avEqL_refl cs]
 |.aggx cs=>by simp[avEq,avEqL_refl cs]
 |.tup cs=>by simp[avEq,avEqL_refl cs]
theorem avEqL_refl:∀l:List AV,avEqL l l=true
 |[]=>rfl
 |a::r=>by simp[avEqL,avEq_refl a,avEqL_refl r]
theorem avEqLL_refl:∀l:List (List AV),avEqLL l l=true
 |[]=>rfl
 |a::r=>by simp[avEqLL,avEqL_refl a,avEqLL_refl r]
end
@[simp]theorem ldOK1_mk(lo hi:Nat)(sh:Sh)(p v:AV)(S:St):ldOK1 ⟨lo,hi,sh,p,v⟩ S=(match loadK S sh p with|some v'=>avEq v' v|none=>false):=rfl
@[simp]theorem avEq_self(a:AV):avEq a a=true:=avEq_refl a
def pureK(tips:List (Option Nat))(S:St):Option AV→Option (AV × List (Option Nat) × St)
 |some v=>some (v,tips,S)
 |none=>none
def memK:Option (List (Option Nat) × St)→Option (AV × List (Option Nat) × St)
 |some r=>some (.undef,r.1,r.2)
 |none=>none
def cpyK(tips:List (Option Nat)):Option (AV × St)→Option (AV × List (Option Nat) × St)
 |some r=>some (r.1,tips,r.2)
 |none=>none
@[simp]theorem pureK_some(tips:List (Option Nat))(S:St)(v:AV):pureK tips S (some v)=some (v,tips,S):=rfl
@[simp]theorem pureK_none(tips:List (Option Nat))(S:St):pureK tips S none=none:=rfl
@[simp]theorem memK_some(tips:List (Option Nat))(S:St):memK (some (tips,S))=some (.undef,tips,S):=rfl
@[simp]theorem memK_none:memK none=none:=rfl
@[simp]theorem cpyK_some(tips:List (Option Nat))(v:AV)(S:St):cpyK tips (some (v,S))=some (v,tips,S):=rfl
@[simp]theorem cpyK_none(tips:List (Option Nat)):cpyK tips none=none:=rfl
@[simp]theorem evK1_p(sl:KE)(tips:List (Option Nat))(nb:Nat)(S:St)(k:KP):evK1 call ⟨sl,tips,nb⟩ S (.p k)=pureK tips S (evKP (KE.ev sl) k):=by
  simp only[evK1];cases evKP (KE.ev sl) k<;>rfl
@[simp]theorem evK1_alloc(K:KEnv)(S:St)(z:List AV):evK1 call K S (.alloc z)=some (.ptr S.length 0,K.tips,S++[.mem z [] false]):=rfl
@[simp]theorem evK1_box(sl:KE)(tips:List (Option Nat))(nb:Nat)(S:St)(n:Nat)(x:KV):evK1 call ⟨sl,tips,nb⟩ S (.box n x)=boxV n tips S (KE.ev sl x):=rfl
def boxW(n:Nat)(tips:List (Option Nat))(S:St)(v:AV):Option (AV × List (Option Nat) × St):=
 if isVal v=true∧v.cells.length=n then some (.ptr S.length 0,tips,S++[.mem ((strip v).cells) [] false])else none
theorem boxV_val(n:Nat)(tips:List (Option Nat))(S:St){v:AV}(h:isVal v=true):boxV n tips S v=boxW n tips S v:=by cases v<;>first|rfl|simp[isVal]at h
section
variable(n:Nat)(tips:List (Option Nat))(S:St)
@[simp]theorem boxV_agg(cs:List AV):boxV n tips S (.agg cs)=boxW n tips S (.agg cs):=rfl
@[simp]theorem boxV_int(k:IntKind)(i:Int):boxV n tips S (.int k i)=boxW n tips S (.int k i):=rfl
@[simp]theorem boxV_bool(b:Bool):boxV n tips S (.bool b)=boxW n tips S (.bool b):=rfl
@[simp]theorem boxV_str(s:List UInt8):boxV n tips S (.str s)=boxW n tips S (.str s):=rfl
@[simp]theorem boxV_nilp:boxV n tips S .nilp=boxW n tips S .nilp:=rfl
@[simp]theorem boxV_ptr(i o:Nat):boxV n tips S (.ptr i o)=boxW n tips S (.ptr i o):=rfl
@[simp]theorem boxV_nils:boxV n tips S .nils=boxW n tips S .nils:=rfl
@[simp]theorem boxV_sl(r:Right)(z:Nat)(es:List (List AV)):boxV n tips S (.sl r z es)=boxW n tips S (.sl r z es):=rfl
@[simp]theorem boxV_ifc(t:TypeId)(v:AV):boxV n tips S (.ifc t v)=boxW n tips S (.ifc t v):=rfl
@[simp]theorem boxV_nili:boxV n tips S .nili=boxW n tips S .nili:=rfl
end
attribute [simp] boxW
@[simp]theorem evK1_load(sl:KE)(tips:List (Option Nat))(nb:Nat)(S:St)(sh:Sh)(p:KV):evK1 call ⟨sl,tips,nb⟩ S (.load sh p)=pureK tips S (loadK S sh (KE.ev sl p)):=by
  simp only[evK1];cases loadK S sh (KE.ev sl p)<;>rfl
@[simp]theorem evK1_store(sl:KE)(tips:List (Option Nat))(nb:Nat)(S:St)(n:Nat)(p x:KV):evK1 call ⟨sl,tips,nb⟩ S (.store n p x)=memK (storeK tips nb S n (KE.ev sl p) (KE.ev sl x)):=by
  simp only[evK1];cases storeK tips nb S n (KE.ev sl p) (KE.ev sl x)<;>rfl
@[simp]theorem evK1_app(sl:KE)(tips:List (Option Nat))(nb:Nat)(S:St)(sz:Nat)(s x:KV):evK1 call ⟨sl,tips,nb⟩ S (.app sz s x)=appendK sz tips S (KE.ev sl s) (KE.ev sl x):=rfl
@[simp]theorem evK1_bsl(sl:KE)(tips:List (Option Nat))(nb:Nat)(S:St)(sz:Nat)(z:List AV)(len:Nat)(ps:List (Nat × KV)):
 evK1 call ⟨sl,tips,nb⟩ S (.bsl sz z len ps)=pureK tips S ((fillEs sz (List.replicate len z) (ps.map fun x=>(x.1,KE.ev sl x.2))).map fun es=>.sl .exact sz es):=by
 simp only[evK1];cases fillEs sz (List.replicate len z) (ps.map fun x=>(x.1,KE.ev sl x.2))<;>rfl
def clrK(tips:List (Option Nat)):Option St→Option (AV × List (Option Nat) × St)
 |some S=>some (.tup [],tips,S)
 |none=>none
@[simp]theorem clrK_some(tips:List (Option Nat))(S:St):clrK tips (some S)=some (.tup [],tips,S):=rfl
@[simp]theorem clrK_none(tips:List (Option Nat)):clrK tips none=none:=rfl
@[simp]theorem evK1_mkm(sl:KE)(tips:List (Option Nat))(nb:Nat)(S:St):evK1 call ⟨sl,tips,nb⟩ S .mkm=some (.mref S.length,tips,S++[.map []]):=rfl
def updK(tips:List (Option Nat)):Option St→Option (AV × List (Option Nat) × St)
 |some S=>some (.undef,tips,S)
 |none=>none
@[simp]theorem updK_some(tips:List (Option Nat))(S:St):updK tips (some S)=some (.undef,tips,S):=rfl
@[simp]theorem updK_none(tips:List (Option Nat)):updK tips none=none:=rfl
def sendV(call:Caller)(tips:List (Option Nat))(S:St)(args:List AV):Option (AV × AV)→Option (AV × List (Option Nat) × St)
 |some (g,v)=>callK call tips S g (v::args)
 |none=>none
@[simp]theorem sendV_some(tips:List (Option Nat))(S:St)(args:List AV)(g v:AV):sendV call tips S args (some (g,v))=callK call tips S g (v::args):=rfl
@[simp]theorem evK1_xt(sl:KE)(tips:List (Option Nat))(nb:Nat)(S:St)(e:Nat)(args:List KV):evK1 call ⟨sl,tips,nb⟩ S (.xt e args)=pureK tips S (extV e (args.map (KE.ev sl))):=by
  simp only[evK1];cases extV e (args.map (KE.ev sl))<;>rfl
@[simp]theorem evK1_own(sl:KE)(tips:List (Option Nat))(nb:Nat)(S:St)(f:FuncId)(args:List KV):evK1 call ⟨sl,tips,nb⟩ S (.own f args)=ownCall call tips S f (args.map (KE.ev sl)):=rfl
@[simp]theorem evK1_bad(sl:KE)(tips:List (Option Nat))(nb:Nat)(S:St):evK1 call ⟨sl,tips,nb⟩ S .bad=none:=rfl
def backK(tips:List (Option Nat))(S:St)(args:List AV):Option (AV × St)→Option (AV × List (Option Nat) × St)
 |some (r,S')=>some ((takeRet tips r).1,(takeRet tips r).2,unlockAll S S' args)
 |none=>none
def argsOK(S:St):List AV→Option (List AV)
 |[]=>some []
 |a::r=>match giveArg S a,argsOK S r with
  |some a,some r=>some (a::r)
  |_,_=>none
def sendK(call:Caller)(tips:List (Option Nat))(S:St)(f:FuncId)(args:List AV):Option (List AV)→Option (AV × List (Option Nat) × St)
 |some args'=>backK tips S args (call f args' (lockAll S args))
 |none=>none
theorem argsOK_eq(S:St):∀l:List AV,l.mapM (giveArg S)=argsOK S l
 |[]=>rfl
 |a::r=>by
  rw[List.mapM_cons,argsOK_eq S r]
  simp only[argsOK]
  cases giveArg S a with
  |none=>rfl
  |some a=>cases argsOK S r<;>rfl
@[simp]theorem evK1_call(sl:KE)(tips:List (Option Nat))(nb:Nat)(S:St)(f:KV)(args:List KV):evK1 call ⟨sl,tips,nb⟩ S (.call f args)=callK call tips S (KE.ev sl f) (args.map (KE.ev sl)):=rfl
def rawsOK:List AV→Option (List AV)
 |[]=>some []
 |a::r=>match rawArg a,rawsOK r with
  |some a,some r=>some (a::r)
  |_,_=>none
theorem rawsOK_eq:∀l:List AV,l.mapM rawArg=rawsOK l
 |[]=>rfl
 |a::r=>by
  rw[List.mapM_cons,rawsOK_eq r]
  simp only[rawsOK]
  cases rawArg a with
  |none=>rfl
  |some a=>cases rawsOK r<;>rfl
def backR(tips:List (Option Nat)):Option (AV × St)→Option (AV × List (Option Nat) × St)
 |some (r,S')=>some ((takeRet tips r).1,(takeRet tips r).2,S')
 |none=>none
def sendR(call:Caller)(tips:List (Option Nat))(S:St)(f:FuncId):Option (List AV)→Option (AV × List (Option Nat) × St)
 |some args'=>backR tips (call f args' S)
 |none=>none
def sendX(call:Caller)(tips:List (Option Nat))(S:St)(f:FuncId)(args:List AV):Bool→Option (AV × List (Option Nat) × St)
 |true=>sendR call tips S f (rawsOK args)
 |false=>sendK call tips S f args (argsOK S args)
@[simp]theorem sendX_true(tips:List (Option Nat))(S:St)(f:FuncId)(args:List AV):sendX call tips S f args true=sendR call tips S f (rawsOK args):=rfl
@[simp]theorem sendX_false(tips:List (Option Nat))(S:St)(f:FuncId)(args:List AV):sendX call tips S f args false=sendK call tips S f args (argsOK S args):=rfl
@[simp]theorem callK_fn(tips:List (Option Nat))(S:St)(g:FuncId)(a b args:List AV):callK call tips S (.fn g a b) args=sendX call tips S g (a++(args++b)) (rawF g):=by
  simp only[callK,calleeK,List.append_assoc]
  rw[argsOK_eq,rawsOK_eq]
  cases rawF g with
  |true=>
   simp only[if_true,sendX,sendR]
   cases rawsOK (a++(args++b))with
   |none=>rfl
   |some args'=>
    simp only[backR]
    cases call g args' S<;>rfl
  |false=>
   simp only[Bool.false_eq_true,if_false,sendX,sendK,backK]
   cases argsOK S (a++(args++b))with
   |none=>rfl
   |some args'=>
    simp only
    cases call g args' (lockAll S (a++(args++b)))<;>rfl
def primK(nk:NK)(call:Caller)(S:St)(f:FuncId)(args:List AV):Option (List AV→St→Option (AV × St))→Option (AV × St)
 |some p=>p args S
 |none=>call f (args.map (if nk.keep f=true then normn else norm)) S
@[simp]theorem primK_some(S:St)(f:FuncId)(args:List AV)(p:List AV→St→Option (AV × St)):primK nk call S f args (some p)=p args S:=rfl
@[simp]theorem primK_none(S:St)(f:FuncId)(args:List AV):primK nk call S f args none=call f (args.map (if nk.keep f=true then normn else norm)) S:=rfl
@[simp]theorem sendK_some(tips:List (Option Nat))(S:St)(f:FuncId)(args args':List AV):sendK (viaK nk call) tips S f args (some args')=backK tips S args (primK nk call (lockAll S args) f args' (nk.prim f)):=by
  simp only[sendK,viaK,primK]
  cases nk.prim f<;>rfl
@[simp]theorem sendR_some(tips:List (Option Nat))(S:St)(f:FuncId)(args':List AV):sendR (viaK nk call) tips S f (some args')=backR tips (primK nk call S f args' (nk.prim f)):=by
  simp only[sendR,viaK,primK]
  cases nk.prim f<;>rfl
@[simp]theorem sendR_none(tips:List (Option Nat))(S:St)(f:FuncId):sendR call tips S f none=none:=rfl
@[simp]theorem backR_some(tips:List (Option Nat))(r:AV)(S':St):backR tips (some (r,S'))=some ((takeRet tips r).1,(takeRet tips r).2,S'):=rfl
@[simp]theorem backR_none(tips:List (Option Nat)):backR tips none=none:=rfl
@[simp]theorem rawsOK_nil:rawsOK []=some []:=rfl
@[simp]theorem rawsOK_cons(a:AV)(r:List AV):rawsOK (a::r)=match rawArg a,rawsOK r with
 |some a,some r=>some (a::r)
 |_,_=>none:=rfl
@[simp]theorem sendK_none(tips:List (Option Nat))(S:St)(f:FuncId)(args:List AV):sendK call tips S f args none=none:=rfl
@[simp]theorem backK_some(tips:List (Option Nat))(S:St)(args:List AV)(r:AV)(S':St):backK tips S args (some (r,S'))=some ((takeRet tips r).1,(takeRet tips r).2,unlockAll S S' args):=rfl
@[simp]theorem backK_none(tips:List (Option Nat))(S:St)(args:List AV):backK tips S args none=none:=rfl
@[simp]theorem argsOK_nil(S:St):argsOK S []=some []:=rfl
@[simp]theorem argsOK_cons(S:St)(a:AV)(r:List AV):argsOK S (a::r)=match giveArg S a,argsOK S r with
 |some a,some r=>some (a::r)
 |_,_=>none:=rfl
@[simp]theorem DC_ops'(l:List KO)(E:KEnv)(S:St):DC lib nk (.ops l) E S=regC (evKs (viaK nk (DF lib nk)) l E S):=DC_ops l E S
@[simp]theorem DC_draw'(al:List (Nat × List AV))(l:List KD)(E:KEnv)(S:St):DC lib nk (.draw al l) E S=regC (evKD (viaK nk (DF lib nk)) al l E S):=DC_draw al l E S
noncomputable def seqC(lib:FuncId→Option KF)(nk:NK)(b:KC)(x:Option (Out × KEnv × St)):Option (Out × KEnv × St):=thenC x fun E S=>DC lib nk b E S
@[simp]theorem DC_seq'(a b:KC)(E:KEnv)(S:St):DC lib nk (.seq a b) E S=seqC lib nk b (DC lib nk a E S):=DC_seq a b E S
@[simp]theorem seqC_normal(b:KC)(E:KEnv)(S:St):seqC lib nk b (some (.normal,E,S))=DC lib nk b E S:=rfl
@[simp]theorem seqC_ret(b:KC)(E:KEnv)(S:St):seqC lib nk b (some (.ret,E,S))=some (.ret,E,S):=rfl
@[simp]theorem seqC_exit(id:Nat)(b:KC)(E:KEnv)(S:St):seqC lib nk b (some (.exit id,E,S))=some (.exit id,E,S):=rfl
@[simp]theorem seqC_none(b:KC):seqC lib nk b none=none:=rfl
theorem DC_loop'(b:KC)(E:KEnv)(S:St):DC lib nk (.loop b) E S=seqC lib nk (.loop b) (DC lib nk b E S):=DC_loop b E S
@[simp]theorem DC_cond'(x:KV)(a b:KC)(E:KEnv)(S:St):DC lib nk (.cond x a b) E S=condC (KE.ev E.sl x) (DC lib nk a E S) (DC lib nk b E S):=DC_cond x a b E S
@[simp]theorem DC_block'(id:Nat)(b:KC)(E:KEnv)(S:St):DC lib nk (.block id b) E S=blockC id (DC lib nk b E S):=DC_block id b E S
@[simp]theorem DC_skip'(E:KEnv)(S:St):DC lib nk .skip E S=some (.normal,E,S):=DC_skip E S
@[simp]theorem DC_ret'(E:KEnv)(S:St):DC lib nk .ret E S=some (.ret,E,S):=DC_ret E S
@[simp]theorem DC_exit'(id:Nat)(E:KEnv)(S:St):DC lib nk (.exit id) E S=some (.exit id,E,S):=DC_exit id E S
@[simp]theorem DC_keep'(l:List Nat)(k:KC)(K:KEnv)(S:St):DC lib nk (.keep l k) K S=DC lib nk k (K.keep l) S:=DC_keep l k K S
@[simp]theorem keep_mk(l:List Nat)(sl:KE)(tips:List (Option Nat))(nb:Nat):KEnv.keep l ⟨sl,tips,nb⟩=⟨l.map fun t=>(t,KE.get sl t),tips,nb⟩:=rfl
@[simp]theorem norm_mk(l:List Nat)(sl:KE)(tips:List (Option Nat))(nb:Nat):KEnv.norm l ⟨sl,tips,nb⟩=⟨l.foldl (fun s t=>(t,am.norm (KE.get s t))::s) sl,tips,nb⟩:=rfl
theorem keep_keep(l:List Nat)(K:KEnv):(K.keep l).keep l=K.keep l:=by
 have key:∀(m:List Nat)(s:KE)(t:Nat),t∈m→KE.get (m.map fun t=>(t,KE.get s t)) t=KE.get s t:=by
  intro m s t
  induction m with
  |nil=>intro h;simp at h
  |cons d m ih=>
   intro h
   simp only[List.map_cons,KE.get]
   split
   ·rename_i e;rw[e]
   ·rename_i e
    rcases List.mem_cons.1 h with h|h
    ·exact absurd h.symm e
    ·exact ih h
 simp only[KEnv.keep,KEnv.mk.injEq,and_true]
 refine List.map_congr_left fun t ht=>?_
 simp only[Prod.mk.injEq,true_and]
 exact key l K.sl t ht
theorem DC_loop_keep(l:List Nat)(b:KC)(K:KEnv)(S:St):DC lib nk (.loop (.keep l b)) K S=DC lib nk (.loop (.keep l b)) (K.keep l) S:=by
 rw[DC_loop',DC_loop' _ (K.keep l),DC_keep',DC_keep',keep_keep]
def doneK(f:FuncId)(res:List KR)(S:St):Option (Out × KEnv × St)→Option (AV × St)
 |some (.exit _,_,_)=>none
 |some (_,K,S')=>match evKR K S' res with
  |none=>none
  |some vs=>resK f K.tips vs S S'
 |none=>none
theorem DF_runO{f:FuncId}{k:KF}(h:lib f=some k){args:List AV}(hl:args.length≤k.nt)(S:St):DF lib nk f args S=doneK f k.res S (DC lib nk k.body ⟨argsK 0 (ownA f args),ownT f args,S.length⟩ S):=by
 rw[DF_eq]
 unfold callOfK
 simp only[h]
 rw[if_neg (by omega)]
 unfold doneK
 cases DC lib nk k.body ⟨argsK 0 (ownA f args),ownT f args,S.length⟩ S with
 |none=>rfl
 |some x=>
  obtain⟨o,K,S'⟩:=x
  cases o with
  |exit id=>rfl
  |normal=>simp only<;>(cases evKR K S' k.res<;>rfl)
  |ret=>simp only<;>(cases evKR K S' k.res<;>rfl)
theorem DF_run{f:FuncId}{k:KF}(h:lib f=some k){args:List AV}(hl:args.length≤k.nt)(S:St)(ho:ownF f=false:=by rfl):DF lib nk f args S=doneK f k.res S (DC lib nk k.body ⟨argsK 0 args,[],S.length⟩ S):=by
 have:=DF_runO (nk:=nk) h hl S
 simpa[ownA,ownT,ho]using this
def giveK(f:FuncId)(tips:List (Option Nat))(S S':St):Option (List AV)→Option (AV × St)
 |none=>none
 |some vs=>resK f tips vs S S'
@[simp]theorem doneK_ret(f:FuncId)(res:List KR)(S:St)(sl:KE)(tips:List (Option Nat))(nb:Nat)(S':St):doneK f res S (some (.ret,⟨sl,tips,nb⟩,S'))=giveK f tips S S' (evKR ⟨sl,tips,nb⟩ S' res):=by
  simp only[doneK,giveK]
@[simp]theorem doneK_normal(f:FuncId)(res:List KR)(S:St)(sl:KE)(tips:List (Option Nat))(nb:Nat)(S':St):doneK f res S (some (.normal,⟨sl,tips,nb⟩,S'))=giveK f tips S S' (evKR ⟨sl,tips,nb⟩ S' res):=by
  simp only[doneK,giveK]
@[simp]theorem doneK_none(f:FuncId)(res:List KR)(S:St):doneK f res S none=none:=rfl
@[simp]theorem giveK_some(f:FuncId)(tips:List (Option Nat))(S S':St)(vs:List AV):giveK f tips S S' (some vs)=resK f tips vs S S':=rfl
@[simp]theorem giveK_none(f:FuncId)(tips:List (Option Nat))(S S':St):giveK f tips S S' none=none:=rfl
theorem resK_one(f:FuncId)(tips:List (Option Nat))(v:AV)(S S':St):resK f tips [v] S S'=if notTup v=true then(if plainRes (giveRes tips (normr v)).1=true then some ((giveRes tips (normr v)).1,S'.take S.length)else resB f (giveRes tips (normr v)).1 S S')else none:=by
 simp[resK,giveResL,retOf]
theorem resK_two(f:FuncId)(tips:List (Option Nat))(u v:AV)(S S':St):resK f tips [u,v] S S'=
 if notTup u=true∧notTup v=true then(if plainRes (.tup [(giveRes tips (normr u)).1,(giveRes (giveRes tips (normr u)).2 (normr v)).1])=true then some (.tup [(giveRes tips (normr u)).1,(giveRes (giveRes tips (normr u)).2 (normr v)).1],S'.take S.length)
  else resB f (.tup [(giveRes tips (normr u)).1,(giveRes (giveRes tips (normr u)).2 (normr v)).1]) S S')else none:=by
 simp[resK,giveResL,retOf]
@[simp]theorem evKR_nil(K:KEnv)(S:St):evKR K S []=some []:=rfl
@[simp]theorem evKR_tmp(K:KEnv)(S:St)(t:Nat)(r:List KR):evKR K S (.tmp t::r)=(evKR K S r).map fun l=>KE.get K.sl t::l:=rfl
@[simp]theorem evKR_cell(K:KEnv)(S:St)(a:Nat)(sh:Sh)(r:List KR):evKR K S (.cell a sh::r)=match loadK S sh (KE.get K.sl a),evKR K S r with
 |some v,some l=>some (v::l)
 |_,_=>none:=rfl
@[simp]theorem argsK_nil(n:Nat):argsK n []=[]:=rfl
@[simp]theorem argsK_cons(n:Nat)(v:AV)(r:List AV):argsK n (v::r)=(n,v)::argsK (n+1) r:=rfl
@[simp]theorem get_at(S:St)(l:List Box)(k:Nat):(S++l)[S.length+k]? =l[k]? :=by rw[List.getElem?_append_right (Nat.le_add_right _ _),Nat.add_sub_cancel_left]
@[simp]theorem get_at0(S:St)(l:List Box):(S++l)[S.length]? =l[0]? :=get_at S l 0
@[simp]theorem set_at(S:St)(l:List Box)(k:Nat)(b:Box):(S++l).set (S.length+k) b=S++l.set k b:=by
  rw[List.set_append_right _ _ (Nat.le_add_right _ _),Nat.add_sub_cancel_left]
@[simp]theorem deref_ptr(S:St)(i off:Nat):deref S (.ptr i off)=match S[i]? with
 |some (.mem cs _ _)=>some (cs,off)
 |_=>none:=rfl
@[simp]theorem deref_rptr(S:St)(r:Right)(cs:List AV)(off:Nat):deref S (.rptr r cs off)=some (cs,off):=rfl
@[simp]theorem fadK_ptr(off i o:Nat):fadK off (.ptr i o)=some (.ptr i (o+off)):=rfl
@[simp]theorem fadK_rptr(off:Nat)(r:Right)(cs:List AV)(o:Nat):fadK off (.rptr r cs o)=some (.rptr r cs (o+off)):=rfl
theorem loadK_ptr{S:St}{i:Nat}{cs:List AV}{tips:List (Option Nat)}{l:Bool}(h:S[i]? =some (.mem cs tips l))(sh:Sh)(off:Nat):loadK S sh (.ptr i off)=partK sh cs off:=by
 simp only[loadK,deref,h]
@[simp]theorem loadK_at(S:St)(sh:Sh)(l:List Box)(k off:Nat):loadK (S++l) sh (.ptr (S.length+k) off)=match l[k]? with
 |some (.mem cs _ _)=>partK sh cs off
 |_=>none:=by
 simp only[loadK,deref,get_at]
 cases l[k]? with
 |none=>rfl
 |some b=>cases b<;>rfl
@[simp]theorem loadK_at0(S:St)(sh:Sh)(l:List Box)(off:Nat):loadK (S++l) sh (.ptr S.length off)=match l[0]? with
 |some (Box.mem cs _ _)=>partK sh cs off
 |_=>none:=loadK_at S sh l 0 off
@[simp]theorem loadK_rptr(S:St)(sh:Sh)(r:Right)(cs:List AV)(off:Nat):loadK S sh (.rptr r cs off)=partK sh cs off:=rfl
@[simp]theorem partK_cell(l:List AV)(off:Nat):partK .cell l off=l[off]? :=rfl
end
def AllOK(P:Program):Nat→List (Option KF)→Prop
 |_,[]=>True
 |n,none::r=>True∧AllOK P (n+1) r
 |n,some k::r=>(∃fn,P.funcs[n]? =some fn∧KOK P fn k)∧AllOK P (n+1) r
theorem allOK_at{P:Program}:∀{l:List (Option KF)}{n i:Nat}{k:KF},AllOK P n l→l[i]? =some (some k)→∃fn,P.funcs[n+i]? =some fn∧KOK P fn k:=by
 intro l
 induction l with
 |nil=>intro n i k _ h;simp at h
 |cons x l ih=>
  intro n i k h e
  cases i with
  |zero=>
   simp at e
   subst e
   exact h.1
  |succ i=>
   have h2:AllOK P (n+1) l:=by cases x<;>exact h.2
   have:=ih h2 (by simpa using e)
   rwa [Nat.add_assoc,Nat.add_comm 1 i]at this
theorem allOK_get{P:Program}{l:List (Option KF)}{i:Nat}{k:KF}(h:AllOK P 0 l)(e:(l[i]?).join=some k):∃fn,P.funcs[i]? =some fn∧KOK P fn k:=by
 have:=allOK_at (i:=i) h (k:=k) (by
  cases hx:l[i]? with
  |none=>simp[hx]at e
  |some y=>simp[hx]at e;rw[e])
 simpa using this
end
section
abbrev Str:=List UInt8
structure Dat(v:AV):Prop where
 norm:am.norm v=v
 normn:am.normn v=v
 normr:am.normr v=v
 strip:am.strip v=v
 give:∀tips,giveRes tips v=(v,tips)
 take:∀tips,takeRet tips v=(v,tips)
 takes:∀tips,takeRes tips v=(v,tips)
 garg:∀S,giveArg S v=some v
 lock:∀S,lockOne S v=S
 unlock:∀S0 S,unlockOne S0 S v=S
 plain:am.plain v=true
 plr:plainRes v=true
 val:isVal v=true
 ntup:notTup v=true
structure DatC(v:AV):Prop where
 normc:am.normc v=v
 strip:am.strip v=v
 plain:am.plain v=true
 noagg:∀cs,v≠.agg cs
 nf:am.nf v=true
 val:isVal v=true
section
variable{v:AV}
@[simp]theorem norm_dat(h:Dat v):am.norm v=v:=h.norm
@[simp]theorem normr_dat(h:Dat v):am.normr v=v:=h.normr
@[simp]theorem strip_dat(h:Dat v):am.strip v=v:=h.strip
@[simp]theorem giveRes_dat(h:Dat v)(tips:List (Option Nat)):giveRes tips v=(v,tips):=h.give tips
@[simp]theorem takeRet_dat(h:Dat v)(tips:List (Option Nat)):takeRet tips v=(v,tips):=h.take tips
@[simp]theorem giveArg_dat(h:Dat v)(S:St):giveArg S v=some v:=h.garg S
@[simp]theorem lockOne_dat(h:Dat v)(S:St):lockOne S v=S:=h.lock S
@[simp]theorem unlockOne_dat(h:Dat v)(S0 S:St):unlockOne S0 S v=S:=h.unlock S0 S
@[simp]theorem plain_dat(h:Dat v):am.plain v=true:=h.plain
@[simp]theorem plainRes_dat(h:Dat v):plainRes v=true:=h.plr
@[simp]theorem isVal_dat(h:Dat v):isVal v=true:=h.val
@[simp]theorem notTup_dat(h:Dat v):notTup v=true:=h.ntup
end
@[simp]theorem lockAll_nil(S:St):lockAll S []=S:=rfl
@[simp]theorem lockAll_cons(S:St)(v:AV)(r:List AV):lockAll S (v::r)=lockAll (lockOne S v) r:=rfl
@[simp]theorem unlockAll_nil(S0 S:St):unlockAll S0 S []=S:=rfl
@[simp]theorem unlockAll_cons(S0 S:St)(v:AV)(r:List AV):unlockAll S0 S (v::r)=unlockAll S0 (unlockOne S0 S v) r:=rfl
theorem plainL_iff:∀{l:List AV},plainL l=true↔∀x∈l,plain x=true
 |[]=>by simp[plainL]
 |v::r=>by simp[plainL,plainL_iff (l:=r)]
theorem plainEs_iff:∀{l:List (List AV)},plainEs l=true↔∀x∈l,plainL x=true
 |[]=>by simp[plainEs]
 |v::r=>by simp[plainEs,plainEs_iff (l:=r)]
def DatL(cs:List AV):Prop:=∀x∈cs,DatC x
@[simp]theorem datL_nil:DatL []:=by simp[DatL]
@[simp]theorem datL_cons{a:AV}{r:List AV}:DatL (a::r)↔DatC a∧DatL r:=by simp[DatL]
theorem DatL.strips{cs:List AV}(h:DatL cs):cs.map am.strip=cs:=by
 rw[List.map_congr_left (g:=id) fun x hx=>(h x hx).strip];simp
theorem DatL.normcs{cs:List AV}(h:DatL cs):cs.map am.normc=cs:=by
 rw[List.map_congr_left (g:=id) fun x hx=>(h x hx).normc];simp
theorem DatL.plain{cs:List AV}(h:DatL cs):plainL cs=true:=plainL_iff.2 fun x hx=>(h x hx).plain
theorem DatC.dat{v:AV}(h:DatC v):Dat v:=by
 obtain⟨h1,h2,h3,h4,h5,h6⟩:=h
 cases v with
 |agg cs=>exact absurd rfl (h4 cs)
 |sl r sz es=>
  cases r with
  |none=>cases es<;>(refine⟨?_, ?_, ?_,h2, ?_, ?_, ?_, ?_, ?_, ?_,h3,h3,h6, ?_⟩<;>intros<;>first|rfl|exact h1|(simp[giveArg,h2]))
  |loan i=>simp[am.plain]at h3
  |exact=>cases es<;>simp[am.normc]at h1
  |fresh=>simp[am.plain]at h3
  |fr n=>simp[am.plain]at h3
  |bx i j=>simp[am.plain]at h3
 |nils=>simp[am.normc]at h1
 |undef=>simp[am.plain]at h3
 |tup=>simp[am.plain]at h3
 |aggx=>simp[am.plain]at h3
 |ptr=>simp[am.plain]at h3
 |rptr r cs o=>
  cases r with
  |none=>refine⟨?_, ?_, ?_,h2, ?_, ?_, ?_, ?_, ?_, ?_,h3,h3,h6, ?_⟩<;>intros<;>rfl
  |_=>simp[am.plain]at h3
 |aref=>simp[am.plain]at h3
 |oref=>simp[am.plain]at h3
 |fn=>simp[am.plain]at h3
 |_=>refine⟨?_, ?_, ?_,h2, ?_, ?_, ?_, ?_, ?_, ?_,h3,h3,h6, ?_⟩<;>intros<;>rfl
theorem DatL.agg{cs:List AV}(h:DatL cs):Dat (.agg cs):=by
 have h1:=h.normcs
 have h2:=h.plain
 refine⟨?_, ?_, ?_,rfl, ?_, ?_, ?_, ?_, ?_, ?_,h2,h2,rfl,rfl⟩<;>intros<;>first|rfl|(simp[am.norm,am.normn,am.normr,h1])
@[simp]theorem datC_bool(b:Bool):DatC (.bool b):=⟨rfl,rfl,rfl,by simp,rfl,rfl⟩
@[simp]theorem datC_int(k:IntKind)(n:Int):DatC (.int k n):=⟨rfl,rfl,rfl,by simp,rfl,rfl⟩
@[simp]theorem datC_nili:DatC .nili:=⟨rfl,rfl,rfl,by simp,rfl,rfl⟩
@[simp]theorem datC_ifc_int(t:TypeId)(k:IntKind)(n:Int):DatC (.ifc t (.int k n)):=⟨rfl,rfl,rfl,by simp,rfl,rfl⟩
@[simp]theorem dat_bool(b:Bool):Dat (.bool b):=(datC_bool b).dat
@[simp]theorem dat_int(k:IntKind)(n:Int):Dat (.int k n):=(datC_int k n).dat
@[simp]theorem dat_nili:Dat .nili:=datC_nili.dat
@[simp]theorem dat_ifc_int(t:TypeId)(k:IntKind)(n:Int):Dat (.ifc t (.int k n)):=(datC_ifc_int t k n).dat
@[simp]theorem dat_agg{cs:List AV}(h:DatL cs):Dat (.agg cs):=h.agg
@[simp]theorem norm_fn(f:FuncId)(a b:List AV):am.norm (.fn f a b)=.fn f a b:=rfl
@[simp]theorem normn_fn(f:FuncId)(a b:List AV):am.normn (.fn f a b)=.fn f a b:=rfl
@[simp]theorem giveArg_fn(S:St)(f:FuncId)(a b:List AV):giveArg S (.fn f a b)=some (.fn f a b):=rfl
@[simp]theorem lockOne_fn(S:St)(f:FuncId)(a b:List AV):lockOne S (.fn f a b)=S:=rfl
@[simp]theorem unlockOne_fn(S0 S:St)(f:FuncId)(a b:List AV):unlockOne S0 S (.fn f a b)=S:=rfl
@[simp]theorem norm_ptr(i o:Nat):am.norm (.ptr i o)=.ptr i o:=rfl
@[simp]theorem normn_ptr(i o:Nat):am.normn (.ptr i o)=.ptr i o:=rfl
@[simp]theorem giveArg_ptr(S:St)(i o:Nat):giveArg S (.ptr i o)=some (.ptr i o):=rfl
@[simp]theorem lockOne_ptr(S:St)(i o:Nat):lockOne S (.ptr i o)=S:=rfl
@[simp]theorem unlockOne_ptr(S0 S:St)(i o:Nat):unlockOne S0 S (.ptr i o)=S:=rfl
def encSl(sz:Nat):List (List AV)→AV
 |[]=>.sl .none 1 []
 |e::r=>.sl .none sz (e::r)
theorem encSl_datC(sz:Nat){es:List (List AV)}(h:∀x∈es,DatL x):DatC (encSl sz es):=by
 have hp:plainEs es=true:=plainEs_iff.2 fun x hx=>(h x hx).plain
 cases es with
 |nil=>exact⟨rfl,rfl,rfl,by simp[encSl],rfl,rfl⟩
 |cons e r=>exact⟨rfl,rfl,hp,by simp[encSl],rfl,rfl⟩
@[simp]theorem lenLK_encSl(sz:Nat)(es:List (List AV)):lenLK (encSl sz es)=some (.int .i64 es.length):=by cases es<;>rfl
theorem ixLK_encSl(sz:Nat)(es:List (List AV))(k:IntKind)(i:Int):ixLK sz (encSl sz es) (.int k i)=if i<0 then none else(es[i.toNat]?).map fun cs=>.rptr .none cs 0:=by
 cases es with
 |nil=>simp[encSl,ixLK]
 |cons e r=>simp[encSl,ixLK,lent]
@[simp]theorem ixLK_at(sz:Nat)(es:List (List AV))(k:IntKind)(i:Nat):ixLK sz (encSl sz es) (.int k (i:Int))=(es[i]?).map fun cs=>.rptr .none cs 0:=by
  rw[ixLK_encSl,if_neg (by omega)];simp
def cellB(b:UInt8):AV:=.int .u8 (b.toNat:Int)
def encB(l:List UInt8):List AV:=l.map cellB
@[simp]theorem encB_length(l:List UInt8):(encB l).length=l.length:=by simp[encB]
@[simp]theorem datC_cellB(b:UInt8):DatC (cellB b):=datC_int _ _
@[simp]theorem datL_encB(l:List UInt8):DatL (encB l):=by
  intro x hx
  simp only[encB,List.mem_map]at hx
  obtain⟨b,_,rfl⟩:=hx
  exact datC_cellB b
def encBs(l:List UInt8):AV:=encSl 1 (l.map fun b=>[cellB b])
@[simp]theorem datC_encBs(l:List UInt8):DatC (encBs l):=encSl_datC 1 (by simp[DatL])
@[simp]theorem dat_encBs(l:List UInt8):Dat (encBs l):=(datC_encBs l).dat
@[simp]theorem lenLK_encBs(l:List UInt8):lenLK (encBs l)=some (.int .i64 l.length):=by simp[encBs]
structure Step' where
 name:Str
 id:Int
 deriving DecidableEq
inductive Val where
 |mk (kind n:Int) (s:Str) (names:List Str) (ids:List Int) (parts:List Val)
namespace Val
def kind:Val→Int|.mk k _ _ _ _ _=>k
def n:Val→Int|.mk _ n _ _ _ _=>n
def s:Val→Str|.mk _ _ s _ _ _=>s
def parts:Val→List Val|.mk _ _ _ _ _ l=>l
end Val
inductive Sch where
 |mk (kind:Int) (words:List Str) (parts:List Sch)
namespace Sch
def kind:Sch→Int|.mk k _ _=>k
end Sch
structure VPair where
 x:Val
 y:Val
inductive Lns where
 |mk (kind:Int) (a b:Str) (type:Sch) (base back:Val) (pairs:List VPair) (inner:List Lns)
namespace Lns
def kind:Lns→Int|.mk k _ _ _ _ _ _ _=>k
def a:Lns→Str|.mk _ a _ _ _ _ _ _=>a
def b:Lns→Str|.mk _ _ b _ _ _ _ _=>b
def base:Lns→Val|.mk _ _ _ _ x _ _ _=>x
end Lns
structure GOp where
 kind:Int
 path:List Step'
 id:Int
 after:Int
 value:Val
structure Entry where
 kind:Int
 version:List UInt8
 parents:List (List UInt8)
 op:GOp
 lens:Lns
 key:List UInt8
 sig:List UInt8
end
@[simp]theorem ixLK_encBs(l:List UInt8)(k:IntKind)(i:Nat):ixLK 1 (encBs l) (.int k (i:Int))=(l[i]?).map fun v=>.rptr .none [cellB v] 0:=by simp[encBs,Function.comp_def]
attribute [simp] evKP pickK binIK binSK evBinII evBinSS cvIK cvSK fldK ixAK ixSK ixGK lenSK foldK mkiK evExtract evNilCheck isVal AV.cells bound
theorem DC_of{lib:FuncId→Option KF}{nk:NK}{c c':KC}(e:c=c')(K:KEnv)(S:St):DC lib nk c K S=DC lib nk c' K S:=by rw[e]
theorem DC_keep_of{lib:FuncId→Option KF}{nk:NK}{c b:KC}{l:List Nat}(e:c=.keep l b)(K:KEnv)(S:St):DC lib nk (.loop c) K S=DC lib nk (.loop c) (K.keep l) S:=by
 subst e;exact DC_loop_keep l b K S
theorem wrap64{x:Int}(h: -9223372036854775808≤x∧x<9223372036854775808):IntKind.i64.wrap x=x:=by
 simp[IntKind.wrap,IntKind.bits,IntKind.signed]
 omega
@[simp]theorem wrap_succ{i:Nat}(h:i+1<9223372036854775808):IntKind.i64.wrap ((i:Int)+1)=((i+1:Nat):Int):=by
  rw[wrap64 (by omega)];omega
@[simp]theorem cast_inj(a b:Nat):((a:Int)=(b:Int))=(a=b):=by simp[Int.ofNat_inj]
@[simp]theorem beq_int(a b:Int):(a==b)=decide (a=b):=by rw[Bool.beq_eq_decide_eq]
@[simp]theorem beq_str(a b:List UInt8):(a==b)=decide (a=b):=by
  by_cases h:a=b
  ·subst h;simp
  ·simp[h]
@[simp]theorem bne_int(a b:Int):(a !=b)= !decide (a=b):=by rw[bne,beq_int]
attribute [simp] resK_one resK_two
noncomputable def same{α:Type}(a b:α):Bool:=open Classical in decide (a=b)
theorem same_iff{α:Type}{a b:α}:same a b=true↔a=b:=by simp[same]
@[simp]theorem same_self{α:Type}(a:α):same a a=true:=by simp[same]
theorem same_false{α:Type}{a b:α}:same a b=false↔a≠b:=by simp[same]
theorem same_eq{α:Type}[DecidableEq α](a b:α):same a b=decide (a=b):=by
 by_cases h:a=b
 ·simp[same_iff.2 h,h]
 ·simp[same_false.2 h,h]
@[simp]theorem evEqK_agg(ks:List Kd)(a b:List AV):evEqK (.agg ks) (.agg a) (.agg b)=eqK ks a b:=rfl
@[simp]theorem evBinE_agg_eql(q:EqK)(nc:Bool)(a b:List AV):evBinE .eql q nc (.agg a) (.agg b)=(evEqK q (.agg a) (.agg b)).map .bool:=rfl
@[simp]theorem evBinE_agg_neq(q:EqK)(nc:Bool)(a b:List AV):evBinE .neq q nc (.agg a) (.agg b)=(evEqK q (.agg a) (.agg b)).map fun b=>.bool (!b):=rfl
@[simp]theorem evBinE_nil_nil_eql(ts:List TypeId):evBinE .eql (.ifc ts) true .nili .nili=some (.bool true):=rfl
@[simp]theorem evBinE_nil_nil_neq(ts:List TypeId):evBinE .neq (.ifc ts) true .nili .nili=some (.bool false):=rfl
@[simp]theorem evBinE_ptr_nil_eql(nc:Bool)(i o:Nat):evBinE .eql .ptr nc (.ptr i o) .nilp=some (.bool false):=rfl
@[simp]theorem evBinE_ptr_nil_neq(nc:Bool)(i o:Nat):evBinE .neq .ptr nc (.ptr i o) .nilp=some (.bool true):=rfl
@[simp]theorem evBinE_bool_eql(nc:Bool)(a b:Bool):evBinE .eql .bool nc (.bool a) (.bool b)=some (.bool (a==b)):=rfl
@[simp]theorem evBinE_bool_neq(nc:Bool)(a b:Bool):evBinE .neq .bool nc (.bool a) (.bool b)=some (.bool (!(a==b))):=rfl
theorem regBox_dat{v:AV}(h:Dat v)(tips:List (Option Nat))(i:Nat)(bt:List (Option Nat)):regBox tips i bt v=(v,tips,bt):=by
 cases v with
 |sl r sz es=>
  cases r with
  |none=>rfl
  |fr n=>have:=h.plain;simp[am.plain]at this
  |bx i j=>have:=h.plain;simp[am.plain]at this
  |_=>rfl
 |_=>rfl
theorem storeK_dat{v:AV}(h:Dat v){S:St}{i:Nat}{cs:List AV}{bt:List (Option Nat)}(hS:S[i]? =some (.mem cs bt false))(tips:List (Option Nat))(nb n off:Nat):
 storeK tips nb S n (.ptr i off) v=if v.cells.length=n∧off+n≤cs.length then some (tips,S.set i (.mem (splice cs off v.cells) bt false))else none:=by
 simp only[storeK,hS]
 by_cases hc:v.cells.length=n∧off+n≤cs.length
 ·rw[if_pos hc,if_pos ⟨h.val,hc.1,hc.2,.inr (by rw[h.strip];exact h.plain)⟩]
  simp only[regBox_dat h]
 ·rw[if_neg hc,if_neg]
  exact fun h=>hc ⟨h.2.1,h.2.2.1⟩
@[simp]theorem storeK_dat_at{v:AV}(h:Dat v)(S:St)(l:List Box)(k off:Nat)(tips:List (Option Nat))(nb n:Nat):storeK tips nb (S++l) n (.ptr (S.length+k) off) v=match l[k]? with
 |some (Box.mem cs bt false)=>if v.cells.length=n∧off+n≤cs.length then some (tips,S++l.set k (.mem (splice cs off v.cells) bt false))else none
 |_=>none:=by
 cases hl:l[k]? with
 |none=>simp[storeK,hl]
 |some b=>
  cases b with
  |iter s p=>simp[storeK,hl]
  |map es=>simp[storeK,hl]
  |mem cs bt lk=>
   cases lk with
   |true=>simp[storeK,hl]
   |false=>
    rw[storeK_dat h (cs:=cs) (bt:=bt) (by rw[get_at];exact hl)]
    simp only[set_at]
@[simp]theorem boxV_dat{v:AV}(h:Dat v)(n:Nat)(tips:List (Option Nat))(S:St):boxV n tips S v=boxW n tips S v:=boxV_val n tips S h.val
@[simp]theorem storeK_dat_at0{v:AV}(h:Dat v)(S:St)(l:List Box)(off:Nat)(tips:List (Option Nat))(nb n:Nat):storeK tips nb (S++l) n (.ptr S.length off) v=match l[0]? with
 |some (Box.mem cs bt false)=>if v.cells.length=n∧off+n≤cs.length then some (tips,S++l.set 0 (.mem (splice cs off v.cells) bt false))else none
 |_=>none:=storeK_dat_at h S l 0 off tips nb n
@[simp]theorem splice_all{cs vs:List AV}(h:vs.length=cs.length):splice cs 0 vs=vs:=by simp[splice,h]
theorem drop_get{α:Type}{l:List α}{i:Nat}{x:α}(h:l[i]? =some x):l.drop i=x::l.drop (i+1):=by
 obtain⟨hi,rfl⟩:=List.getElem?_eq_some_iff.1 h
 rw[List.drop_eq_getElem_cons hi]
theorem get_of_lt'{α:Type}{l:List α}{i:Nat}(h:i<l.length):∃x,l[i]? =some x∧∀h:i<l.length,l[i]=x:=⟨l[i],List.getElem?_eq_getElem h,fun _=>rfl⟩
section
def hwOf(W:World)(b:Nat):Nat:=match W.heap[b]? with
 |some (.cells vs _ _)=>vs.size
 |_=>0
theorem hwOf_cell{W:World}{b o:Nat}{v:Value}(h:W.cell? ⟨b,o,none⟩=some v):o<hwOf W b:=by
 unfold World.cell? at h
 unfold hwOf
 simp only at h
 split at h
 ·rename_i vs _ _ hb
  simp only[hb]
  simp at h
  exact(Array.getElem?_eq_some_iff.1 h).1
 ·cases h
def RVd(W:World)(a:AV)(v:Value):Prop:=∀mu lk,RV W mu (hwOf W) lk a v
def RVL(W:World)(az:List AV)(vs:List Value):Prop:=az.length=vs.length∧∀(j:Nat)(a:AV),az[j]? =some a→∃v,vs[j]? =some v∧RVd W a v∧nf a=true
theorem RVL.nil{W:World}:RVL W [] []:=⟨rfl,fun j a h=>by simp at h⟩
theorem RVL.cons{W:World}{a:AV}{v:Value}{az:List AV}{vs:List Value}(h:RVd W a v)(hn:nf a=true)(k:RVL W az vs):RVL W (a::az) (v::vs):=by
 refine⟨by simp[k.1],fun j x hj=>?_⟩
 cases j with
 |zero=>simp at hj;subst hj;exact⟨v,rfl,h,hn⟩
 |succ j=>simpa using k.2 j x (by simpa using hj)
section
variable{H:Type}{enc:TypeId × Value→H}{P:Program}{W:World}{base:Nat}{sp:Nat→Bool}{held:Bool}
theorem rd_int{t:TypeId}{k:IntKind}{n:Nat}{cs:List Value}{x:DataW H × List MemPlace}(ht:P.underlying t=some (.int k))(h:DataW.trod enc P W base sp held n t cs=some x):∃i,cs=[.int k i]∧(Lit.int k i).wf=true∧x=(.lit (.int k i),[]):=by
 cases n with
 |zero=>simp[DataW.trod]at h
 |succ n=>
  unfold DataW.trod at h
  simp only[ht]at h
  split at h<;>first
   |(rename_i k0 k' i e1 e2
     cases e1
     split at h
     ·rename_i hc
      obtain⟨rfl,hw⟩:=hc
      exact⟨_,rfl,hw,by simpa using h.symm⟩
     ·cases h)
   |(simp_all;done)
end
end
section
theorem mapM_len{α β:Type}{f:α→Option β}:∀{l:List α}{m:List β},l.mapM f=some m→m.length=l.length∧∀(i:Nat)(a:α),l[i]? =some a→∃b,f a=some b∧m[i]? =some b
 |[],m,h=>by simp at h;subst h;simp
 |a::l,m,h=>by
  rw[List.mapM_cons]at h
  cases hf:f a with
  |none=>simp[hf]at h
  |some b=>
   cases hl:l.mapM f with
   |none=>simp[hf,hl]at h
   |some r=>
    simp[hf,hl]at h
    subst h
    obtain⟨h1,h2⟩:=mapM_len hl
    refine⟨by simp[h1],fun i x hx=>?_⟩
    cases i with
    |zero=>simp at hx;subst hx;exact⟨b,hf,rfl⟩
    |succ i=>simpa using h2 i x (by simpa using hx)
section
variable{H:Type}{enc:TypeId × Value→H}{P:Program}{W:World}{base:Nat}{sp:Nat→Bool}{held:Bool}
theorem cells_at{a:Addr}{n:Nat}{cs:List Value}(h:W.cells? base a n=some cs):cs.length=n∧∀(i:Nat)(v:Value),cs[i]? =some v→W.cell? (a.add i)=some v:=by
 unfold World.cells? at h
 split at h
 case isFalse=>cases h
 obtain⟨h1,h2⟩:=mapM_len h
 have hl:cs.length=n:=by simpa using h1
 refine⟨hl,fun i v hv=>?_⟩
 have hi:i<n:=by rw[←hl];exact(List.getElem?_eq_some_iff.1 hv).1
 obtain⟨b,h3,h4⟩:=h2 i i (by rw[List.getElem?_range hi])
 rw[hv]at h4
 cases h4
 exact h3
theorem add_at{a:Addr}{i:Nat}{v:Value}(h:W.cell? (a.add i)=some v):W.cell? ⟨a.block,a.off+i,none⟩=some v:=by
 unfold Addr.add at h
 split at h
 ·rename_i e
  subst e
  unfold World.cell? at h⊢
  split at h
  ·rename_i hb
   simp only[hb]
   split at h
   ·cases h
   ·simpa using h
  ·cases h
 ·simpa using h
theorem rd_slice{α:Type}{f:α→List AV}{R:α→Prop}{t e:TypeId}{sz n:Nat}{cs:List Value}{x:DataW H × List MemPlace}(ht:P.underlying t=some (.slice e))(hsz:P.cellsOf e=sz)(h0:sz≠0)
 (hel:∀cs y,DataW.trod enc P W base sp held (n -1) e cs=some y→∃d,R d∧RVL W (f d) cs) (h:DataW.trod enc P W base sp held n t cs=some x):
 ∃(l:List α)(v:Value),cs=[v]∧l.length<9223372036854775808∧(∀d∈l,R d)∧RVd W (encSl sz (l.map f)) v:=by
 cases n with
 |zero=>simp[DataW.trod]at h
 |succ n=>
  unfold DataW.trod at h
  simp only[ht]at h
  split at h
  all_goals first|(simp_all;done)|skip
  ·rename_i e' e1 _
   refine⟨[],_,rfl,by simp,by simp,fun mu lk=>?_⟩
   simpa[encSl]using RV.emp (w:=W) (mu:=mu) (hw:=hwOf W) (lk:=lk) 1 none 0
  ·rename_i _cs e' a len cap e1
   cases e1
   split at h
   case isFalse=>cases h
   rename_i hc
   obtain⟨_,hle,hmax⟩:=hc
   rw[Option.bind_eq_some_iff]at h
   obtain⟨elems,he,hrest⟩:=h
   clear hrest
   obtain⟨h1,h2⟩:=mapM_len he
   have hlen:elems.length=len:=by simpa using h1
   have each:∀i,i<len→∃d,R d∧∃ecs,ecs.length=sz∧(∀(j:Nat)(v:Value),ecs[j]? =some v→W.cell? ⟨a.block,a.off+(i*sz+j),none⟩=some v)∧RVL W (f d) ecs:=by
    intro i hi
    obtain⟨y,h3,_⟩:=h2 i i (by rw[List.getElem?_range hi])
    rw[Option.bind_eq_some_iff]at h3
    obtain⟨ecs,h4,h5⟩:=h3
    rw[hsz]at h4
    obtain⟨h6,h7⟩:=cells_at h4
    obtain⟨d,hd,hr⟩:=hel ecs y h5
    refine⟨d,hd,ecs,h6,fun j v hv=>?_,hr⟩
    have:=h7 j v hv
    have e2:(a.add (i*sz)).add j=a.add (i*sz+j):=by
     unfold Addr.add
     by_cases z1:i*sz=0<;>by_cases z2:j=0<;>simp[z1,z2,Nat.add_assoc]
    rw[e2]at this
    exact add_at this
   obtain⟨l,hl1,hl2⟩:∃l:List α,l.length=len∧∀(i:Nat)(d:α),l[i]? =some d→R d∧∃ecs,ecs.length=sz∧(∀(j:Nat)(v:Value),ecs[j]? =some v→W.cell? ⟨a.block,a.off+(i*sz+j),none⟩=some v)∧RVL W (f d) ecs:=by
    clear he h1 h2 hlen hle hmax
    induction len with
    |zero=>exact⟨[],rfl,by simp⟩
    |succ len ih=>
     obtain⟨l,h1,h2⟩:=ih fun i hi=>each i (by omega)
     obtain⟨d,h3⟩:=each len (by omega)
     refine⟨l++[d],by simp[h1],fun i d' hd=>?_⟩
     rcases Nat.lt_or_ge i l.length with hlt|hge
     ·rw[List.getElem?_append_left hlt]at hd
      exact h2 i d' hd
     ·rw[List.getElem?_append_right hge]at hd
      have:i=len:=by
       have:=(List.getElem?_eq_some_iff.1 hd).1
       simp at this
       omega
      subst this
      simp[h1]at hd
      subst hd
      exact h3
   refine⟨l,_,rfl,by unfold maxLen at hmax;omega,fun d hd=>?_,fun mu lk=>?_⟩
   ·obtain⟨i,hi⟩:=List.getElem?_of_mem hd
    exact(hl2 i d hi).1
   ·cases hnil:l with
    |nil=>
     rw[hnil]at hl1
     have:len=0:=by simpa using hl1.symm
     subst this
     simpa[encSl]using RV.emp (w:=W) (mu:=mu) (hw:=hwOf W) (lk:=lk) 1 (some a) cap
    |cons d0 r0=>
     rw[←hnil]
     have hne:encSl sz (l.map f)=.sl .none sz (l.map f):=by rw[hnil];rfl
     rw[hne]
     have hsp:a.spot=none:=by
      obtain⟨_,ecs,q1,_,_⟩:=hl2 0 d0 (by rw[hnil];rfl)
      obtain⟨y,h3,_⟩:=h2 0 0 (by rw[List.getElem?_range (by rw[←hl1,hnil];simp)])
      rw[Option.bind_eq_some_iff]at h3
      obtain⟨ecs',h4,_⟩:=h3
      rw[hsz]at h4
      obtain⟨h6,h7⟩:=cells_at h4
      cases hq:ecs' with
      |nil=>rw[hq]at h6;simp at h6;omega
      |cons v r=>
       have:=h7 0 v (by rw[hq];rfl)
       simp only[Nat.zero_mul]at this
       have e3:(a.add 0).add 0=a:=by simp[Addr.add]
       rw[e3]at this
       unfold World.cell? at this
       split at this
       ·split at this
        ·cases this
        ·rename_i hs;simpa using hs
       ·cases this
     have ha:a=⟨a.block,a.off,none⟩:=by cases a;simp at hsp;simp[hsp]
     rw[ha]
     have key:∀(i:Nat)(ecs:List AV)(j:Nat)(v:AV),(l.map f)[i]? =some ecs→ecs[j]? =some v→∃y,W.cell? ⟨a.block,a.off+(i*sz+j),none⟩=some y∧RVd W v y∧nf v=true:=by
      intro i ecs j v hi hj
      simp only[List.getElem?_map,Option.map_eq_some_iff]at hi
      obtain⟨d,hd,rfl⟩:=hi
      obtain⟨_,ecs,q1,q2,q3⟩:=hl2 i d hd
      obtain⟨y,hy,hr,hn⟩:=q3.2 j v hj
      exact⟨y,q2 j y hy,hr,hn⟩
     refine .sl .none sz (l.map f) a.block a.off len cap (fun i j=>(W.cell? ⟨a.block,a.off+(i*sz+j),none⟩).getD (.bool false)) ⟨by simp[hl1],hle,h0⟩ (by simp) (by simp) (by simp) (fun i ecs hi=>?_) (fun i ecs j v hi hj=>?_) fun i ecs j v hi hj=>?_
     ·simp only[List.getElem?_map,Option.map_eq_some_iff]at hi
      obtain⟨d,hd,rfl⟩:=hi
      obtain⟨_,ecs,q1,q2,q3⟩:=hl2 i d hd
      rw[q3.1,q1]
     ·obtain⟨y,k1,k2,k3⟩:=key i ecs j v hi hj
      refine⟨k3, ?_, ?_⟩
      ·have:=hwOf_cell k1
       rw[←Nat.add_assoc]at this
       exact this
      ·rw[k1,Nat.add_assoc,k1];rfl
     ·obtain⟨y,k1,k2,k3⟩:=key i ecs j v hi hj
      rw[k1]
      exact k2 mu lk
end
theorem Dat.flag{v:AV}(h:Dat v){lv:Live}{ti:Id→TI}{x:Value}:Flag lv ti v x:=by
 have h1:=h.plr
 have h2:=h.ntup
 have h3:=h.plain
 cases v with
 |sl r sz es=>cases r<;>first|trivial|(simp[am.plain]at h3)
 |tup vs=>simp[notTup]at h2
 |_=>trivial
theorem inv0{W:World}(hg:Glb W (hwOf W)):Inv W.heap.size (fun _=>False) [] [] W (fun _=>none) (hwOf W) (fun _=>⟨0,0,0,0⟩):=by
 refine⟨fun i bx b h=>by simp at h,fun i cs bt l b h=>by simp at h,fun i j b h=>by simp at h,fun i b h=>by simp at h,fun b hb=>?_,fun id L h=>?_,fun id id' L L' h=>?_,fun b h=>h.elim,Nat.le_refl _,hg⟩
 ·unfold hwOf
  rw[Array.getElem?_eq_none hb]
 ·cases id<;>simp[live]at h
 ·cases id<;>simp[live]at h
theorem law_calls{P:Program}{lib:FuncId→Option KF}{nk:NK}(hm:P.follows .mixedOrders=true)(hN:Named P)(hpr:PrimOK P nk)(hlib:∀f k,lib f=some k→∃fn,P.funcs[f]? =some fn∧KOK P fn k)
 {f:FuncId} {avs:List AV} (h:DF lib nk f avs []=some (.bool true,[])) {W:World} (hg:Glb W (hwOf W)) {args:Array Value} (hd:∀a∈avs,Dat a) (hl:avs.length=args.size) (ha:∀(j:Nat)(a:AV),avs[j]? =some a→∃v,args[j]? =some v∧RVd W a v):
 Calls P f args W fun e w'=>e=.returned (.bool true)∧Below W.heap.size W w':=by
 obtain⟨n,hn⟩:=(DF_some _).1 h
 have I:=inv0 hg
 obtain⟨o1,o2⟩:=ownT_nofresh f avs fun x hx sz es e=>by
  have:=(hd x hx).plain
  rw[e]at this
  simp[am.plain]at this
 obtain⟨_,hc⟩:=all_kcalls hm hN hpr hlib n f avs [] _ _ hn W.heap.size (fun _=>False) W (fun _=>none) (hwOf W) (fun _=>⟨0,0,0,0⟩) args (by rw[o1];exact I) hl (fun j a hj=>by
  rw[o2]at hj
  rw[o1]
  obtain⟨v,hv,hr⟩:=ha j a hj
  exact⟨v,hv,hr _ _,(hd a (List.mem_of_getElem? hj)).flag⟩)
 refine hc.mono fun e w' A=>?_
 obtain⟨v,rfl,mu',hw',ti',_,ext,_,rv,_⟩:=A
 refine⟨?_,ext.ebelow.toBelow⟩
 have e:(takeRet [] (AV.bool true)).1=.bool true:=rfl
 rw[e]at rv
 cases rv
 rfl
end
def numB(n:Nat):Str:=if n<128 then[UInt8.ofNat n]else UInt8.ofNat (n %128+128)::numB (n/128)
termination_by n
decreasing_by omega
def pN:Nat→Str→Option (Nat × Nat)
 |_,[]=>none
 |i,c::r=>if 10≤i∨(i=9∧1<c.toNat)then none
  else if 128≤c.toNat then(pN (i+1) r).map fun x=>(c.toNat -128+128*x.1,x.2+1)
  else if c.toNat=0∧0<i then none else some (c.toNat,1)
theorem pN_len:∀(s:Str)(i v k:Nat),pN i s=some (v,k)→1≤k∧k≤s.length∧i+k≤10
 |[],i,v,k,h=>by simp[pN]at h
 |c::r,i,v,k,h=>by
  unfold pN at h
  split at h
  ·cases h
  ·rename_i h1
   split at h
   ·obtain⟨⟨v',k'⟩,h2,h3⟩:=Option.map_eq_some_iff.1 h
    have:=pN_len r (i+1) v' k' h2
    simp at h3⊢
    omega
   ·split at h
    ·cases h
    ·simp at h⊢;omega
theorem pN_bound:∀(s:Str)(i v k:Nat),pN i s=some (v,k)→i≤9∧v<128^(9 -i)*2
 |[],i,v,k,h=>by simp[pN]at h
 |c::r,i,v,k,h=>by
  unfold pN at h
  split at h
  ·cases h
  ·rename_i h1
   have hi:i≤9:=by omega
   refine⟨hi, ?_⟩
   split at h
   ·obtain⟨⟨v',k'⟩,h2,h3⟩:=Option.map_eq_some_iff.1 h
    obtain⟨a,b⟩:=pN_bound r (i+1) v' k' h2
    have e:9 -i=(9 -(i+1))+1:=by omega
    have hc:=c.toNat_lt
    simp at h3
    rw[e,Nat.pow_succ]
    omega
   ·split at h
    ·cases h
    ·rename_i h2 h3
     simp at h
     by_cases e:i=9
     ·subst e
      simp
      omega
     ·have:128^1≤128^(9 -i):=Nat.pow_le_pow_right (by decide) (by omega)
      omega
theorem numB_le:∀(d n:Nat),n<128^(d+1)→(numB n).length≤d+1
 |0,n,h=>by unfold numB;rw[if_pos (by simpa using h)];simp
 |d+1,n,h=>by
  unfold numB
  split
  ·simp
  ·have:n/128<128^(d+1):=by rw[Nat.pow_succ]at h;omega
   have:=numB_le d (n/128) this
   simp;omega
theorem numB_le10{n:Nat}(h:n<18446744073709551616):(numB n).length≤10:=by
 have e:(128:Nat)^(9+1)=1180591620717411303424:=by decide
 exact numB_le 9 n (by omega)
theorem parse_lt{s:Str}{v k:Nat}(h:pN 0 s=some (v,k)):v<18446744073709551616:=by
 have:=(pN_bound s 0 v k h).2
 have e:(128:Nat)^(9 -0)*2=18446744073709551616:=by decide
 omega
structure Rd where
 b:Str
 at_:Nat
 err:Option (Nat × Nat)
namespace Rd
def left(r:Rd):Str:=r.b.drop r.at_
def fail(r:Rd)(c:Nat):Rd:=match r.err with
 |none=>{r with err:=some (c,r.at_)}
 |some _=>r
def go(r:Rd)(k:Nat):Rd:={r with at_:=r.at_+k}
def byte(r:Rd):Nat × Rd:=match r.err with
 |some _=>(0,r)
 |none=>match r.left with
  |[]=>(0,r.fail 2)
  |c::_=>(c.toNat,r.go 1)
def number(most:Nat)(r:Rd):Nat × Rd:=match r.err with
 |some _=>(0,r)
 |none=>match pN 0 r.left with
  |none=>(0,r.fail 2)
  |some (n,k)=>if most<n then(0,r.fail 15)else(n,r.go k)
def bool(r:Rd):Bool × Rd:=match r.err with
 |some _=>(false,r)
 |none=>match r.left with
  |[]=>(false,r.fail 2)
  |c::_=>if 1<c.toNat then(false,r.fail 2)else(decide (c.toNat=1),r.go 1)
def bytes(most:Nat)(r:Rd):Str × Rd:=match r.err with
 |some _=>([],r)
 |none=>match pN 0 r.left with
  |none=>([],r.fail 2)
  |some (n,k)=>if most<n then([],r.fail 3)else if r.left.length -k<n then([],r.fail 2)else((r.left.drop k).take n,r.go (k+n))
def Ok(r:Rd):Prop:=r.at_≤r.b.length∧∀c p,r.err=some (c,p)→c≠0∧c<16∧p≤r.b.length
theorem Ok.fail{r:Rd}(h:r.Ok){c:Nat}(hc:c≠0)(hc':c<16):(r.fail c).Ok:=by
 unfold Rd.fail
 split
 ·exact⟨h.1,fun c' p e=>by simp at e;obtain⟨rfl,rfl⟩:=e;exact⟨hc,hc',h.1⟩⟩
 ·exact h
theorem Ok.go{r:Rd}(h:r.Ok){k:Nat}(hk:k≤r.left.length):(r.go k).Ok:=by
 unfold Rd.left at hk
 rw[List.length_drop]at hk
 exact⟨by have:=h.1;simp only[Rd.go];omega,h.2⟩
end Rd
section
open Go.Lib
end
section
@[simp]abbrev q_F(o s:Nat):KP:=.fad o (.t s)
@[simp]abbrev q_L(s:Nat):KP:=.lenL (.t s)
@[simp]abbrev q_S(s:Nat):KP:=.lenS (.t s)
@[simp]abbrev q_N(s:Nat):KP:=.nilc (.t s)
@[simp]abbrev q_B(o:BinOp)(x y:Nat):KP:=.binI o (.t x) (.t y)
@[simp]abbrev q_I(o:BinOp)(x:Nat)(n:Int):KP:=.binI o (.t x) (.c (.int .i64 n))
@[simp]abbrev q_X(z x i:Nat):KP:=.ixL z (.t x) (.t i)
@[simp]abbrev q_T(s i:Nat):KP:=.ext (.t s) i
@[simp]abbrev q_P(c a:Nat):KP:=.pick (.t c) (.t a) (.c (.bool false))
@[simp]abbrev q_Q(c a:Nat):KP:=.pick (.t c) (.c (.bool true)) (.t a)
@[simp]abbrev q_U(s:Nat):KP:=.un .not (.t s)
@[simp]abbrev q_W(k:IntKind)(s:Nat):KP:=.cvI k (.t s)
@[simp]abbrev q_C(v:AV):KP:=.mov (.c v)
@[simp]abbrev q_D(h:Sh)(o s:Nat):KP:=.fld h o (.t s)
@[simp]abbrev q_E(o:BinOp)(l:List TypeId)(s:Nat):KP:=.binE o (.ifc l) true (.t s) (.c .nili)
@[simp]abbrev q_l(s:Nat):KOp:=.load .cell (.t s)
@[simp]abbrev q_la(n s:Nat):KOp:=.load (.agg n) (.t s)
@[simp]abbrev q_h(f:FuncId)(l:List KV):KOp:=.call (.c (.fn f [] [])) l
@[simp]abbrev q_g(f:FuncId)(l:List Nat):KOp:=.call (.c (.fn f [] [])) (l.map .t)
@[simp]abbrev q_s(n x y:Nat):KOp:=.store n (.t x) (.t y)
@[simp]abbrev q_a(n x y:Nat):KOp:=.app n (.t x) (.t y)
@[simp]abbrev q_b(n x:Nat):KOp:=.box n (.t x)
@[simp]abbrev q_fd(d o s:Nat):KO:=⟨some d,none,.p (.fad o (.t s))⟩
@[simp]abbrev q_ld(d s:Nat):KO:=⟨some d,none,.load .cell (.t s)⟩
@[simp]abbrev q_w(o:KO)(a b:Nat):KD:=⟨o,true,a,b⟩
@[simp]abbrev q_z(o:KO)(a b:Nat):KD:=⟨o,false,a,b⟩
@[simp]abbrev q_o(l:List KO)(r:KC):KC:=.seq (.ops l) r
@[simp]abbrev q_r(l:List Nat):KC:=.keep l .ret
@[simp]abbrev q_if(x:Nat)(a:KC):KC:=.cond (.t x) a .skip
theorem kok{P:Program}{f:Func}{k:KF}(h:(f.ntmps,decide (f.params.size≤k.nt),f.body.bind (kcOf P f.ntmps),f.results.toList.mapM (krOf P))=(k.nt,true,some (erase k.body),some k.res)):KOK P f k:=by
 simp only[Prod.mk.injEq,decide_eq_true_eq]at h
 exact h
section
variable(lib:FuncId→Option KF)(f:FuncId)(c:KC)(r:List KR)
abbrev Run0:Prop:=∀{nk:NK}(S:St),DF lib nk f [] S=doneK f r S (DC lib nk c ⟨[],[],S.length⟩ S)
abbrev Run1:Prop:=∀{nk:NK}(a:AV)(S:St),DF lib nk f [a] S=doneK f r S (DC lib nk c ⟨[(0,a)],[],S.length⟩ S)
abbrev Run2:Prop:=∀{nk:NK}(a b:AV)(S:St),DF lib nk f [a,b] S=doneK f r S (DC lib nk c ⟨[(0,a),(1,b)],[],S.length⟩ S)
abbrev Run3:Prop:=∀{nk:NK}(a b d:AV)(S:St),DF lib nk f [a,b,d] S=doneK f r S (DC lib nk c ⟨[(0,a),(1,b),(2,d)],[],S.length⟩ S)
end
section
variable{lib:FuncId→Option KF}{f:FuncId}{n:Nat}{c:KC}{r:List KR}
theorem run0_(h:lib f=some ⟨n,c,r⟩)(g:0≤n)(ho:ownF f=false:=by rfl):Run0 lib f c r:=fun S=>DF_run (args:=[]) h g S ho
theorem run1_(h:lib f=some ⟨n,c,r⟩)(g:1≤n)(ho:ownF f=false:=by rfl):Run1 lib f c r:=fun a S=>DF_run (args:=[a]) h g S ho
theorem run2_(h:lib f=some ⟨n,c,r⟩)(g:2≤n)(ho:ownF f=false:=by rfl):Run2 lib f c r:=fun a b S=>DF_run (args:=[a,b]) h g S ho
theorem run3_(h:lib f=some ⟨n,c,r⟩)(g:3≤n)(ho:ownF f=false:=by rfl):Run3 lib f c r:=fun a b d S=>DF_run (args:=[a,b,d]) h g S ho
end
end
def bl:List UInt8→List UInt8→Bool
 |_,[]=>false
 |[],_::_=>true
 |a::x,b::y=>if a=b then bl x y else decide (a<b)
def shr32(x:UInt32)(n:Nat):UInt32:=UInt32.ofNat (x.toNat>>>n)
def rotr(x:UInt32)(n:Nat):UInt32:=UInt32.ofNat ((x.toNat>>>n)|||(x.toNat<<<(32 -n)))
def beN:Nat→Str→Nat
 |n,[]=>n
 |n,c::r=>beN (n*256+c.toNat) r
def nxtW(w:List UInt32)(i:Nat):UInt32:=
 w.getD (i -16) 0+(rotr (w.getD (i -15) 0) 7^^^rotr (w.getD (i -15) 0) 18^^^shr32 (w.getD (i -15) 0) 3)+w.getD (i -7) 0+(rotr (w.getD (i -2) 0) 17^^^rotr (w.getD (i -2) 0) 19^^^shr32 (w.getD (i -2) 0) 10)
def wordB(b:Str)(i:Nat):UInt32:=UInt32.ofNat (beN 0 ((b.take (4*i+4)).drop (4*i)))
def sch(b:Str):Nat→List UInt32
 |0=>[]
 |i+1=>sch b i++[if i<16 then wordB b i else nxtW (sch b i) i]
structure V8 where
 a:UInt32
 b:UInt32
 c:UInt32
 d:UInt32
 e:UInt32
 f:UInt32
 g:UInt32
 h:UInt32
def V8.t(v:V8)(k w:UInt32):UInt32:=v.h+(rotr v.e 6^^^rotr v.e 11^^^rotr v.e 25)+(v.e&&&v.f^^^ ~~~v.e&&&v.g)+k+w
def V8.u(v:V8):UInt32:=(rotr v.a 2^^^rotr v.a 13^^^rotr v.a 22)+(v.a&&&v.b^^^v.a&&&v.c^^^v.b&&&v.c)
def V8.round(v:V8)(k w:UInt32):V8:=⟨v.t k w+v.u,v.a,v.b,v.c,v.d+v.t k w,v.e,v.f,v.g⟩
def V8.rounds(v:V8)(ks ws:List UInt32):Nat→V8
 |0=>v
 |i+1=>(v.rounds ks ws i).round (ks.getD i 0) (ws.getD i 0)
def V8.add(s v:V8):V8:=⟨s.a+v.a,s.b+v.b,s.c+v.c,s.d+v.d,s.e+v.e,s.f+v.f,s.g+v.g,s.h+v.h⟩
def V8.mix(s:V8)(ks:List UInt32)(b:Str):V8:=s.add (s.rounds ks (sch b 64) 64)
def h256:V8:=⟨1779033703,3144134277,1013904242,2773480762,1359893119,2600822924,528734635,1541459225⟩
def k256:List UInt32:=[1116352408,1899447441,3049323471,3921009573,961987163,1508970993,2453635748,2870763221,3624381080,310598401,607225278,1426881987,1925078388,2162078206,2614888103,3248222580,3835390401,4022224774,264347078,604807628,770255983,1249150122,1555081692,1996064986,2554220882,2821834349,2952996808,3210313671,3336571891,3584528711,113926993,338241895,666307205,773529912,1294757372,1396182291,1695183700,1986661051,2177026350,2456956037,2730485921,2820302411,3259730800,3345764771,3516065817,3600352804,4094571909,275423344,430227734,506948616,659060556,883997877,958139571,1322822218,1537002063,1747873779,1955562222,2024104815,2227730452,2361852424,2428436474,2756734187,3204031479,3329325298]
def absN:Nat→V8→Str→V8
 |0,v,_=>v
 |n+1,v,b=>absN n (v.mix k256 b) (b.drop 64)
def beL:Nat→Nat→Str
 |0,_=>[]
 |k+1,n=>beL k (n/256)++[UInt8.ofNat n]
def fillB(n:Nat):Str:=128::(List.replicate ((119 -n %64)%64) 0++beL 8 (8*n))
def V8.l(v:V8):List UInt32:=[v.a,v.b,v.c,v.d,v.e,v.f,v.g,v.h]
def V8.out(v:V8):Str:=v.l.flatMap fun x=>beL 4 x.toNat
def sumB(v:V8)(l:Str)(n:Nat):Str:=(absN ((l++fillB n).length/64) v (l++fillB n)).out
def fillB2(n:Nat):Str:=128::(List.replicate ((239 -n %128)%128) 0++(List.replicate 8 0++beL 8 (8*n)))
def fillP(args:List AV)(S:St):Option (AV × St):=match args with
 |[.int .i64 n,.int .i64 64,.int .i64 8]=>if 0≤n∧n≤1073741824 then some (.sl .none 1 ((fillB n.toNat).map fun c=>[.int .u8 c.toNat]),S)else none
 |[.int .i64 n,.int .i64 128,.int .i64 16]=>if 0≤n∧n≤1073741824 then some (.sl .none 1 ((fillB2 n.toNat).map fun c=>[.int .u8 c.toNat]),S)else none
 |_=>none
abbrev Prim:=List AV→St→Option (AV × St)
def prims:List (FuncId × Prim):=[(100,fillP),(43,asQ 99 55 166 94)]
def nk:NK:=⟨fun _=>false,fun f=>prims.lookup f⟩
@[simp]theorem nk_keep(f:FuncId):nk.keep f=false:=rfl
section
def OutG(sz:Nat)(out:AV)(tips:List (Option Nat))(es:List (List AV)):Prop:=
 (es=[]∧out=.nils)∨out=.sl .exact sz es∨∃k,out=.sl (.fr k) sz es∧tips[k]? =some (some es.length)
theorem OutG.more{sz:Nat}{out:AV}{tips:List (Option Nat)}{es:List (List AV)}(h:OutG sz out tips es)(t:List (Option Nat)):OutG sz out (tips++t) es:=by
 rcases h with h|h|⟨k,h,h'⟩
 ·exact .inl h
 ·exact .inr (.inl h)
 ·exact .inr (.inr ⟨k,h,by rw[List.getElem?_append_left (List.getElem?_eq_some_iff.1 h').1];exact h'⟩)
theorem OutG.appE{sz:Nat}{out:AV}{tips:List (Option Nat)}{es:List (List AV)}(h:OutG sz out tips es){xs:List (List AV)}(hx:xs≠[])(hl:es.length+xs.length≤1073741824){x:AV}{S:St}(he:elemsOf S x=some (sz,xs)):
 ∃out' tips',appendK sz tips S out x=some (out',tips',S)∧OutG sz out' tips' (es++xs):=by
 have hx':¬xs.length=0:=by cases xs<;>simp at hx⊢
 have hb:¬(1073741824<es.length+xs.length):=by omega
 rcases h with⟨rfl,rfl⟩|rfl|⟨k,rfl,h'⟩
 ·have hb':xs.length≤1073741824:=by simp at hl;exact hl
  refine⟨.sl (.fr tips.length) sz xs,tips++[some xs.length],by simp[appendK,he,hx',hb',hx],.inr (.inr ⟨tips.length,by simp,by simp⟩)⟩
 ·refine⟨.sl (.fr tips.length) sz (es++xs),tips++[some (es.length+xs.length)],by simp[appendK,he,hx',hb,hx],.inr (.inr ⟨tips.length,rfl,by simp⟩)⟩
 ·have hk:=(List.getElem?_eq_some_iff.1 h').1
  refine⟨.sl (.fr k) sz (es++xs),tips.set k (some (es.length+xs.length)),by simp[appendK,he,hx',hb,h',hx],.inr (.inr ⟨k,rfl,by simp[hk]⟩)⟩
theorem OutG.app{sz:Nat}{out:AV}{tips:List (Option Nat)}{es:List (List AV)}(h:OutG sz out tips es){xs:List (List AV)}(hx:xs≠[])(hl:es.length+xs.length≤1073741824)(r:Right)(S:St):
 ∃out' tips',appendK sz tips S out (.sl r sz xs)=some (out',tips',S)∧OutG sz out' tips' (es++xs):=h.appE hx hl rfl
theorem OutG.app0{sz:Nat}{out:AV}{tips:List (Option Nat)}{es:List (List AV)}(h:OutG sz out tips es)(S:St)(x:AV)(hx:∃z,elemsOf S x=some (z,[])):appendK sz tips S out x=some (out,tips,S):=by
 obtain⟨z,hx⟩:=hx
 rcases h with⟨rfl,rfl⟩|rfl|⟨k,rfl,h'⟩<;>simp[appendK,hx]
theorem OutG.appA{sz:Nat}{out:AV}{tips:List (Option Nat)}{es:List (List AV)}(h:OutG sz out tips es){xs:List (List AV)}(hl:es.length+xs.length≤1073741824){x:AV}{S:St}(he:∃z,elemsOf S x=some (z,xs)∧(xs≠[]→z=sz)):
 ∃out' tips',appendK sz tips S out x=some (out',tips',S)∧OutG sz out' tips' (es++xs):=by
 obtain⟨z,he,hz⟩:=he
 by_cases hx:xs=[]
 ·subst hx
  exact⟨out,tips,h.app0 S x ⟨z,he⟩,by simpa using h⟩
 ·obtain rfl:=hz hx
  exact h.appE hx hl he
section
variable{sz:Nat}{out:AV}{tips:List (Option Nat)}{es:List (List AV)}(h:OutG sz out tips es)
include h in
theorem OutG.len:lenLK out=some (.int .i64 es.length):=by
 rcases h with⟨rfl,rfl⟩|rfl|⟨k,rfl,h'⟩<;>rfl
include h in
theorem OutG.give(S:St):giveArg S out=some (strip out):=by
 rcases h with⟨rfl,rfl⟩|rfl|⟨k,rfl,h'⟩<;>rfl
include h in
theorem OutG.norm:norm (strip out)=encSl sz es:=by
 rcases h with⟨rfl,rfl⟩|rfl|⟨k,rfl,h'⟩
 ·rfl
 ·cases es<;>rfl
 ·cases es<;>rfl
include h in
theorem OutG.lock(S:St):lockOne S out=S:=by
 rcases h with⟨rfl,rfl⟩|rfl|⟨k,rfl,h'⟩<;>rfl
include h in
theorem OutG.unlock(S S':St):unlockOne S S' out=S':=by
 rcases h with⟨rfl,rfl⟩|rfl|⟨k,rfl,h'⟩<;>rfl
include h in
theorem OutG.nt:notTup out=true:=by
 rcases h with⟨rfl,rfl⟩|rfl|⟨k,rfl,h'⟩<;>rfl
include h in
theorem OutG.nr:normr out=out:=by
 rcases h with⟨rfl,rfl⟩|rfl|⟨k,rfl,h'⟩<;>rfl
end
def ResG(sz:Nat)(r:AV)(es:List (List AV)):Prop:=(es=[]∧r=.nils)∨r=.sl .exact sz es∨r=.sl .fresh sz es
theorem OutG.res{sz:Nat}{out:AV}{tips:List (Option Nat)}{es:List (List AV)}(h:OutG sz out tips es)(hp:plainEs es=true):∃r tips',giveRes tips (normr out)=(r,tips')∧ResG sz r es∧plainRes r=true:=by
 rcases h with⟨rfl,rfl⟩|rfl|⟨k,rfl,h'⟩
 ·exact⟨.nils,tips,rfl,.inl ⟨rfl,rfl⟩,rfl⟩
 ·exact⟨.sl .exact sz es,tips,rfl,.inr (.inl rfl),hp⟩
 ·refine⟨.sl .fresh sz es,tips.set k none, ?_,.inr (.inr rfl),hp⟩
  show giveRes tips (.sl (.fr k) sz es)=_
  simp only[giveRes];rw[if_pos h']
theorem ResG.take{sz:Nat}{r:AV}{es:List (List AV)}(h:ResG sz r es)(tips:List (Option Nat)):∃out t,takeRet tips r=(out,tips++t)∧OutG sz out (tips++t) es:=by
 rcases h with⟨rfl,rfl⟩|rfl|rfl
 ·exact⟨.nils,[],by simp[takeRet,takeRes],.inl ⟨rfl,rfl⟩⟩
 ·exact⟨.sl .exact sz es,[],by simp[takeRet,takeRes],.inr (.inl rfl)⟩
 ·exact⟨.sl (.fr tips.length) sz es,[some es.length],rfl,.inr (.inr ⟨tips.length,rfl,by simp⟩)⟩
end
theorem info_u8:(Tryz.prog.info? 5).map (fun i=>(i.zero,i.size,i.bytes))=some (some (.int .u8 0),1,1):=by kernel_rfl
theorem beL8(n:Nat):beL 8 n=(List.range 8).map fun j=>UInt8.ofNat (n/256^(7 -j)):=by
 simp[beL,List.range_succ,Nat.div_div_eq_div_mul]
set_option maxRecDepth 100000 in
set_option maxHeartbeats 4000000 in
theorem fill_any(n:Nat)(hn:n≤1073741824)(w:World):
 Calls Tryz.prog 100 #[.int .i64 (n:Int),.int .i64 64,.int .i64 8] w fun ev w'=>∃v,ev=.returned v∧w'.ownsRow w.heap.size 5 1 v (fillB n).length ((fillB n).map fun c=>.int .u8 c.toNat)∧Below w.heap.size w w':=by
 obtain⟨i0,hi,hz0,hz1,hz2⟩:=info_parts info_u8
 generalize hK:(119 -n %64)%64=K
 go_enter Tryz.func100,Tryz.ntmps100
 go_wp2
 go_loopw [7] (fun v wr=>∃(k g cap:Nat),k≤K∧v=.slice (some ⟨g,0,none⟩) (k+1) cap∧wr.ownsRow w.heap.size 5 1 v (k+1) (.int .u8 128::List.replicate k (.int .u8 0))∧Below w.heap.size w wr) (fun v _=>K+1 -(match v with|.slice _ l _=>l|_=>0))
 case atStart=>exact⟨0,w.heap.size,1,by omega,rfl,⟨rfl,.inr ⟨w.heap.size,1,#[.int .u8 128],rfl,Nat.le_refl _,heap_alloc_new _ _,by omega,by unfold maxLen;omega,rfl,rfl⟩⟩,(Below.refl _ _).alloc (Nat.le_refl _) _⟩
 case round=>
  obtain⟨k,g,cap,hk,rfl,hrow,hb⟩:=hrel
  obtain⟨v2,w2,hz8,hown2,hgrow2⟩:=run_append_zeros_own (P:=Tryz.prog) wr w.heap.size 25 3 25 5 i0 (.int .u8 0) .i64 .i64 Tryz.underlying25 Tryz.underlying3 hi hz0 hz1 hz2 (zv:=.int .u8 0) rfl rfl _ (k+1) (by omega) _ hrow 8 (by omega) (by omega) hb.size
  obtain⟨g2,cap2,cur2,rfl,hg2,hh2,hc2,hm2,hs2,ht2⟩:∃g2 cap2 cur2,v2=.slice (some ⟨g2,0,none⟩) (k+1+8) cap2∧w.heap.size≤g2∧w2.heap[g2]? =some (.cells cur2 5 (0,0))∧k+1+8≤cap2∧cap2≤maxLen∧cur2.size=cap2∧cur2.toList.take (k+1+8)=.int .u8 128::List.replicate k (.int .u8 0)++List.replicate 8 (.int .u8 0):=by
   rcases hown2.2 with⟨_,h⟩|⟨g2,cap2,cur2,h1,h2,h3,h4,h5,h6,h7⟩
   ·omega
   ·exact⟨g2,cap2,cur2,h1,h2,h3,h4,h5,by simpa using h6,by simpa using h7⟩
  have hput:=put8 w.heap.size g2 (k+1) (cap2 -(k+1)) (n*8) (by omega) hg2 w2 cur2 5 hh2 (by omega)
  rw[Int.natCast_mul]at hput
  have hb2:Below w.heap.size w w2:=hb.grown hgrow2 hb.size (fun j hj=>by cases hj;exact(hrow.lt g rfl).1)
  go_wp2_with (first
   |(at_builtin;refine wpList_append_own _ rfl (.tmp 18) (.tmp 19) 25 rfl w.heap.size 5 i0 (.int .u8 0) 1 1 Tryz.underlying25 hi hz0 hz1 hz2 rfl (by decide) _ _ _ rfl (hrow.alloc _) ⟨wr.heap.size,0,none⟩ 1 1 [.int .u8 0] rfl rfl (cell_one_new _ _ _) (ints_oneCell .u8 [0]) (by unfold maxLen;omega) (by omega) (by have:=hb.size;simp;omega) ?_;intro v1 w1 hown1 hgrow1 hnil1)
   |(at_builtin;refine Lib.wpList_append_run _ rfl (.tmp 21) (.tmp 22) _ _ rfl _ _ rfl rfl _ _ hz8 ?_)
   |(go_at_call 104;refine hput.mono ?_;rintro e w3 ⟨rfl,hput3⟩))
  ·have h:¬(((n:Int)+((k:Int)+1)+8)%64=0):=by simpa using‹(!decide (((n:Int)+((k:Int)+1)+8)%64=0))=true›
   have hk2:k≠K:=by omega
   obtain⟨g1,cap1,rfl⟩:∃g1 cap1,v1=.slice (some ⟨g1,0,none⟩) (k+1+1) cap1:=by
    rcases hown1.2 with⟨_,h⟩|⟨g1,cap1,cur1,h1,_⟩
    ·omega
    ·exact⟨g1,cap1,h1⟩
   go_roundw
   case rel=>
    refine⟨k+1,g1,cap1,by omega,rfl, ?_,(hb.alloc hb.size _).grown hgrow1 (by have:=hb.size;simp;omega) (fun j hj=>by cases hj;exact(hrow.lt g rfl).1)⟩
    rw[List.replicate_succ']
    exact hown1
   case measure=>show K+1 -(k+1+1)<K+1 -(k+1);omega
  ·have hk2:k=K:=by
    have h:(((n:Int)+((k:Int)+1)+8)%64=0):=by simpa using‹(!decide (((n:Int)+((k:Int)+1)+8)%64=0))=false›
    omega
   obtain⟨⟨cur3,c1,c2,c3,c4⟩,hb3⟩:=hput3
   go_ret
   subst hk2
   have hl:(fillB n).length=k+1+8:=by simp[fillB,beL8,hK]
   refine⟨_,rfl,⟨by simp,.inr ⟨g2,cap2,cur3,by rw[hl];rfl,hg2,c1,by omega,hm2,by omega, ?_⟩⟩,hb2.trans hb3⟩
   rw[Nat.mul_one,hl]
   apply List.ext_getElem?
   intro j
   rw[List.getElem?_take,List.getElem?_map,Array.getElem?_toList]
   by_cases h1:j<k+1
   ·have e:=congrArg (fun l:List Value=>l[j]?) ht2
    simp only[List.getElem?_take,Array.getElem?_toList]at e
    rw[if_pos (by omega)]at e
    rw[if_pos (by omega),c3 j (by omega),e,List.getElem?_append_left (by simp;omega)]
    cases j with
    |zero=>rfl
    |succ j=>simp[fillB,hK,List.getElem?_append,show j<k by omega]
   ·by_cases h2:j<k+1+8
    ·have e:=c4 (j -(k+1)) (by omega) (by omega)
     rw[show k+1+(j -(k+1))=j by omega]at e
     rw[if_pos h2,e]
     obtain⟨i,rfl⟩:∃i,j=k+1+i:=⟨j -(k+1),by omega⟩
     have hi8:i<8:=by omega
     rw[show k+1+i -(k+1)=i by omega]
     have e2:(fillB n)[k+1+i]? =some (UInt8.ofNat (8*n/256^(7 -i))):=by
      unfold fillB
      rw[hK,show k+1+i=(k+i)+1 by omega,List.getElem?_cons_succ,List.getElem?_append_right (by simp),beL8]
      simp[hi8]
     rw[e2]
     simp[byteAt,Nat.mul_comm]
    ·rw[if_neg h2,List.getElem?_eq_none (by omega)]
     rfl
set_option maxRecDepth 100000 in
set_option maxHeartbeats 4000000 in
theorem fill_any2(n:Nat)(hn:n≤1073741824)(w:World):
 Calls Tryz.prog 100 #[.int .i64 (n:Int),.int .i64 128,.int .i64 16] w fun ev w'=>∃v,ev=.returned v∧w'.ownsRow w.heap.size 5 1 v (fillB2 n).length ((fillB2 n).map fun c=>.int .u8 c.toNat)∧Below w.heap.size w w':=by
 obtain⟨i0,hi,hz0,hz1,hz2⟩:=info_parts info_u8
 generalize hK:(239 -n %128)%128=K
 go_enter Tryz.func100,Tryz.ntmps100
 go_wp2
 go_loopw [7] (fun v wr=>∃(k g cap:Nat),k≤K∧v=.slice (some ⟨g,0,none⟩) (k+1) cap∧wr.ownsRow w.heap.size 5 1 v (k+1) (.int .u8 128::List.replicate k (.int .u8 0))∧Below w.heap.size w wr) (fun v _=>K+1 -(match v with|.slice _ l _=>l|_=>0))
 case atStart=>exact⟨0,w.heap.size,1,by omega,rfl,⟨rfl,.inr ⟨w.heap.size,1,#[.int .u8 128],rfl,Nat.le_refl _,heap_alloc_new _ _,by omega,by unfold maxLen;omega,rfl,rfl⟩⟩,(Below.refl _ _).alloc (Nat.le_refl _) _⟩
 case round=>
  obtain⟨k,g,cap,hk,rfl,hrow,hb⟩:=hrel
  obtain⟨v2,w2,hz8,hown2,hgrow2⟩:=run_append_zeros_own (P:=Tryz.prog) wr w.heap.size 25 3 25 5 i0 (.int .u8 0) .i64 .i64 Tryz.underlying25 Tryz.underlying3 hi hz0 hz1 hz2 (zv:=.int .u8 0) rfl rfl _ (k+1) (by omega) _ hrow 16 (by omega) (by omega) hb.size
  obtain⟨g2,cap2,cur2,rfl,hg2,hh2,hc2,hm2,hs2,ht2⟩:∃g2 cap2 cur2,v2=.slice (some ⟨g2,0,none⟩) (k+1+16) cap2∧w.heap.size≤g2∧w2.heap[g2]? =some (.cells cur2 5 (0,0))∧k+1+16≤cap2∧cap2≤maxLen∧cur2.size=cap2∧cur2.toList.take (k+1+16)=.int .u8 128::List.replicate k (.int .u8 0)++List.replicate 16 (.int .u8 0):=by
   rcases hown2.2 with⟨_,h⟩|⟨g2,cap2,cur2,h1,h2,h3,h4,h5,h6,h7⟩
   ·omega
   ·exact⟨g2,cap2,cur2,h1,h2,h3,h4,h5,by simpa using h6,by simpa using h7⟩
  have hput:=put8 w.heap.size g2 (k+9) (cap2 -(k+9)) (n*8) (by omega) hg2 w2 cur2 5 hh2 (by omega)
  rw[Int.natCast_mul]at hput
  have hb2:Below w.heap.size w w2:=hb.grown hgrow2 hb.size (fun j hj=>by cases hj;exact(hrow.lt g rfl).1)
  go_wp2_with (first
   |(at_builtin;refine wpList_append_own _ rfl (.tmp 18) (.tmp 19) 25 rfl w.heap.size 5 i0 (.int .u8 0) 1 1 Tryz.underlying25 hi hz0 hz1 hz2 rfl (by decide) _ _ _ rfl (hrow.alloc _) ⟨wr.heap.size,0,none⟩ 1 1 [.int .u8 0] rfl rfl (cell_one_new _ _ _) (ints_oneCell .u8 [0]) (by unfold maxLen;omega) (by omega) (by have:=hb.size;simp;omega) ?_;intro v1 w1 hown1 hgrow1 hnil1)
   |(at_builtin;refine Lib.wpList_append_run _ rfl (.tmp 21) (.tmp 22) _ _ rfl _ _ rfl rfl _ _ hz8 ?_)
   |(go_at_call 104;refine hput.mono ?_;rintro e w3 ⟨rfl,hput3⟩))
  ·have h:¬(((n:Int)+((k:Int)+1)+16)%128=0):=by simpa using‹(!decide (((n:Int)+((k:Int)+1)+16)%128=0))=true›
   have hk2:k≠K:=by omega
   obtain⟨g1,cap1,rfl⟩:∃g1 cap1,v1=.slice (some ⟨g1,0,none⟩) (k+1+1) cap1:=by
    rcases hown1.2 with⟨_,h⟩|⟨g1,cap1,cur1,h1,_⟩
    ·omega
    ·exact⟨g1,cap1,h1⟩
   go_roundw
   case rel=>
    refine⟨k+1,g1,cap1,by omega,rfl, ?_,(hb.alloc hb.size _).grown hgrow1 (by have:=hb.size;simp;omega) (fun j hj=>by cases hj;exact(hrow.lt g rfl).1)⟩
    rw[List.replicate_succ']
    exact hown1
   case measure=>show K+1 -(k+1+1)<K+1 -(k+1);omega
  ·have hk2:k=K:=by
    have h:(((n:Int)+((k:Int)+1)+16)%128=0):=by simpa using‹(!decide (((n:Int)+((k:Int)+1)+16)%128=0))=false›
    omega
   obtain⟨⟨cur3,c1,c2,c3,c4⟩,hb3⟩:=hput3
   go_ret
   subst hk2
   have hl:(fillB2 n).length=k+1+16:=by simp[fillB2,beL8,hK]
   refine⟨_,rfl,⟨by simp,.inr ⟨g2,cap2,cur3,by rw[hl];rfl,hg2,c1,by omega,hm2,by omega, ?_⟩⟩,hb2.trans hb3⟩
   rw[Nat.mul_one,hl]
   apply List.ext_getElem?
   intro j
   rw[List.getElem?_take,List.getElem?_map,Array.getElem?_toList]
   by_cases h1:j<k+9
   ·have e:=congrArg (fun l:List Value=>l[j]?) ht2
    simp only[List.getElem?_take,Array.getElem?_toList]at e
    rw[if_pos (by omega)]at e
    rw[if_pos (by omega),c3 j (by omega),e]
    have hf:fillB2 n=(128::List.replicate k 0++List.replicate 8 0)++beL 8 (8*n):=by unfold fillB2;rw[hK];simp
    have hv:(.int .u8 128::List.replicate k (.int .u8 0)++List.replicate 16 (.int .u8 0):List Value)=((128::List.replicate k 0++List.replicate 8 0:Str).map fun c=>.int .u8 c.toNat)++List.replicate 8 (.int .u8 0):=by
     simp[←List.replicate_append_replicate (n:=8) (m:=8)]
    rw[hf,hv,List.getElem?_append_left (by simp;omega),List.getElem?_append_left (by simp;omega),List.getElem?_map]
   ·by_cases h2:j<k+1+16
    ·have e:=c4 (j -(k+9)) (by omega) (by omega)
     rw[show k+9+(j -(k+9))=j by omega]at e
     rw[if_pos h2,e]
     obtain⟨i,rfl⟩:∃i,j=k+9+i:=⟨j -(k+9),by omega⟩
     have hi8:i<8:=by omega
     rw[show k+9+i -(k+9)=i by omega]
     have e2:(fillB2 n)[k+9+i]? =some (UInt8.ofNat (8*n/256^(7 -i))):=by
      unfold fillB2
      rw[hK,show k+9+i=(k+8+i)+1 by omega,List.getElem?_cons_succ,List.getElem?_append_right (by simp;omega),List.getElem?_append_right (by simp;omega),beL8]
      simp[show k+8+i -k -8=i by omega,hi8]
     rw[e2]
     simp[byteAt,Nat.mul_comm]
    ·rw[if_neg h2,List.getElem?_eq_none (by omega)]
     rfl
section
open Go.Lib
theorem inv_below{base:Nat}{prot:Nat→Prop}{tips:List (Option Nat)}{S:St}{w w':World}{mu:Nat→Option Nat}{hw hw':Nat→Nat}{ti:Id→TI}(hd:drawKept=false)(I:Inv base prot tips S w mu hw ti)(hb:Below w.heap.size w w')
 (h1:∀b,b<w.heap.size→hw' b=hw b) (h2:∀b,w'.heap.size≤b→hw' b=0):
 Inv base prot tips S w' mu hw' ti∧Ext base prot S w mu hw S w' mu hw':=by
 obtain⟨b1,b2,b3,b4,b5⟩:=hb
 have hle:∀b,hw b≤hw' b:=fun b=>by
  rcases Nat.lt_or_ge b w.heap.size with h|h
  ·rw[h1 b h];exact Nat.le_refl _
  ·rw[I.iout b h];exact Nat.zero_le _
 have e:Ext base prot S w mu hw S w' mu hw':=by
  refine⟨fun _ _ h=>h,hle,fun _ h=>h,fun b o v _ h=>?_,fun b h=>⟨b5 b (I.iprot b h),h1 b (I.iprot b h)⟩,⟨⟨b1,b2,b3,b4,fun k hk=>b5 k (by have:=I.ibase;omega)⟩,fun h=>by rw[hd]at h;cases h⟩,Nat.le_refl _⟩
  rw[cell_eq (b5 b (World.block_lt_of_cell? w _ h)) o];exact h
 refine⟨⟨fun i bx b a1 a2=>(I.ibox i bx b a1 a2).ext e (b5 _ (I.idom i b a2).2.2.1),fun i cells bt l b a1 a2 vs el a3=>I.iflag i cells bt l b a1 a2 vs el (by rw[←b5 _ (I.idom i b a2).2.2.1];exact a3),I.iinj,fun i b h=>?_,h2,fun id L h=>?_,I.itinj,fun b h=>by have:=I.iprot b h;omega,by have:=I.ibase;omega,e.glb I.iglb⟩,e⟩
 ·obtain⟨a,b',c,d,f⟩:=I.idom i b h
  exact⟨a,b',by omega,by rw[h1 b c];exact d,f⟩
 ·obtain⟨a,b⟩:=I.itip id L h
  exact⟨a.keep (h1 _ a.lt) (b5 _ a.lt),b⟩
theorem kept_off:drawKept=false:=rfl
theorem body_of{f:FuncId}{fn:Func}(h:Tryz.prog.funcs[f]? =some fn)(hb:fn.body.isSome=true):∃fn c,Tryz.prog.funcs[f]? =some fn∧fn.body=some c:=by
 obtain⟨c,hc⟩:=Option.isSome_iff_exists.1 hb
 exact⟨fn,c,h,hc⟩
theorem old_same{S:St}{r:AV}(h:plainRes r=true):S.length≤S.length∧fineRes S.length (fun k=>decide (S.length≤k)) r=true∧Keeps S.length S S∧NewOK S.length S:=
 ⟨Nat.le_refl _,plainRes_fine h _ _,Keeps.refl _ _,fun i bx hi hS=>by have:=lt_of_get hS;omega⟩
abbrev FIL:FuncId:=100
theorem fil_T(l:List AV):ownT FIL l=[]:=rfl
theorem fil_A(l:List AV):ownA FIL l=l:=rfl
theorem fill_fin{base:Nat}{prot:Nat→Prop}{S:St}{w w':World}{mu:Nat→Option Nat}{hw:Nat→Nat}{ti:Id→TI}(I:Inv base prot [] S w mu hw ti)(L:Str)(hne:0<L.length){v:Value}
 (hrow:w'.ownsRow w.heap.size 5 1 v L.length (L.map fun c=>.int .u8 c.toNat)) (hb:Below w.heap.size w w'):After Tryz.prog base prot S w mu hw ti (.sl .none 1 (L.map fun c=>[.int .u8 c.toNat])) S (.returned v) w':=by
 obtain⟨hln,hrow⟩:=hrow
 rcases hrow with⟨_,h0⟩|⟨g,cap,cur,rfl,hbg,hg,hnc,hcm,hcs,htake⟩
 ·omega
 have hgl:g<w'.heap.size:=(Array.getElem?_eq_some_iff.1 hg).1
 rw[Nat.mul_one]at htake
 obtain⟨I1,e1⟩:=inv_below (hw':=fun b=>if b=g then L.length else hw b) kept_off I hb (fun b h=>if_neg (by omega)) (fun b h=>(if_neg (by omega)).trans<|by exact I.iout b (Nat.le_trans hb.size h))
 refine⟨_,rfl,mu,_,ti,I1,e1,LvExt.refl _ _, ?_,by simp[takeRet,takeRes,Flag,Flag1],fun i hi _=>⟨rfl,hi⟩⟩
 have hc:∀(i:Nat)(c:UInt8),L[i]? =some c→w'.cell? ⟨g,i,none⟩=some (.int .u8 c.toNat):=fun i c hi=>by
  have e:=congrArg (fun l:List Value=>l[i]?) htake
  have hlt:=(List.getElem?_eq_some_iff.1 hi).1
  simp only[List.getElem?_take,Array.getElem?_toList,if_pos hlt,List.getElem?_map,hi,Option.map_some]at e
  rw[cell_of_block hg];exact e
 refine RV.sl .none 1 _ g 0 _ cap (fun i _=>.int .u8 (L.getD i 0).toNat) ⟨by simp,hnc,by omega⟩ (by simp) (by simp) (by simp) (fun i cs hi=>?_) (fun i cs j a hi hj=>?_) (fun i cs j a hi hj=>?_)
 ·simp only[List.getElem?_map,Option.map_eq_some_iff]at hi
  obtain⟨c,_,rfl⟩:=hi
  rfl
 ·simp only[List.getElem?_map,Option.map_eq_some_iff]at hi
  obtain⟨c,hc1,rfl⟩:=hi
  cases j with
  |succ j=>simp at hj
  |zero=>
   simp at hj
   subst hj
   have hlt:=(List.getElem?_eq_some_iff.1 hc1).1
   refine⟨rfl, ?_, ?_⟩
   ·show 0+i*1+0<(if g=g then _ else _)
    rw[if_pos rfl];omega
   ·rw[show 0+i*1+0=i by omega,hc i c hc1]
    simp[hc1]
 ·simp only[List.getElem?_map,Option.map_eq_some_iff]at hi
  obtain⟨c,hc1,rfl⟩:=hi
  cases j with
  |succ j=>simp at hj
  |zero=>
   simp at hj
   subst hj
   simp[hc1]
   exact .int _ _
theorem three_args{lk:Nat→Prop}{w:World}{mu:Nat→Option Nat}{hw:Nat→Nat}{S:St}{ti:Id→TI}{x y z:Int}{vargs:Array Value}(hl:3=vargs.size)
 (ha:∀(j:Nat)(a:AV),[AV.int .i64 x,.int .i64 y,.int .i64 z][j]? =some a→∃v,vargs[j]? =some v∧RV w mu hw lk a v∧Flag (live [] S mu) ti a v):vargs= #[.int .i64 x,.int .i64 y,.int .i64 z]:=by
 obtain⟨v0,h0,r0,_⟩:=ha 0 _ rfl
 obtain⟨v1,h1,r1,_⟩:=ha 1 _ rfl
 obtain⟨v2,h2,r2,_⟩:=ha 2 _ rfl
 cases r0;cases r1;cases r2
 apply Array.ext_getElem?
 intro k
 match k with
 |0=>simpa using h0
 |1=>simpa using h1
 |2=>simpa using h2
 |k+3=>
  rw[Array.getElem?_eq_none (by omega)]
  simp
theorem fill_sim:CallSim Tryz.prog (fun g args S=>if g=FIL then fillP args S else none):=by
 intro f args S r S' h base prot w mu hw ti vargs I hl ha
 simp only at h
 split at h
 case isFalse=>cases h
 rename_i hf
 subst hf
 rw[fil_T]at I
 simp only[fil_T,fil_A]at ha
 refine⟨body_of Tryz.func100 (by kernel_rfl), ?_⟩
 unfold fillP at h
 split at h
 ·rename_i n
  split at h
  case isFalse=>cases h
  rename_i hn
  cases h
  have hva:=three_args (by simpa using hl) ha
  subst hva
  obtain⟨m,rfl⟩:∃m:Nat,n=(m:Int):=⟨n.toNat,by omega⟩
  rw[Int.toNat_natCast]
  refine(fill_any m (by omega) w).mono fun e w' A=>?_
  obtain⟨v,rfl,hrow,hb⟩:=A
  exact fill_fin I (fillB m) (by simp[fillB]) hrow hb
 ·rename_i n
  split at h
  case isFalse=>cases h
  rename_i hn
  cases h
  have hva:=three_args (by simpa using hl) ha
  subst hva
  obtain⟨m,rfl⟩:∃m:Nat,n=(m:Int):=⟨n.toNat,by omega⟩
  rw[Int.toNat_natCast]
  refine(fill_any2 m (by omega) w).mono fun e w' A=>?_
  obtain⟨v,rfl,hrow,hb⟩:=A
  exact fill_fin I (fillB2 m) (by simp[fillB2]) hrow hb
 ·cases h
theorem fill_old:CallOld (fun g args S=>if g=FIL then fillP args S else none):=by
 have pl:∀l:Str,plainRes (.sl .none 1 (l.map fun c=>[.int .u8 c.toNat]))=true:=by
  intro l
  show plainEs _=true
  induction l with
  |nil=>rfl
  |cons c l ih=>simpa[plainEs,plainL,plain]using ih
 intro f args S r S' h
 simp only at h
 split at h
 case isFalse=>cases h
 unfold fillP at h
 split at h
 ·split at h
  case isFalse=>cases h
  cases h
  exact old_same (pl _)
 ·split at h
  case isFalse=>cases h
  cases h
  exact old_same (pl _)
 ·cases h
abbrev ASF:FuncId:=43
abbrev TE:TypeId:=55
abbrev TP:TypeId:=99
abbrev TA:TypeId:=94
abbrev TQ:TypeId:=166
abbrev asR:=asQ TP TE TQ TA
theorem as_T(l:List AV):ownT ASF l=[]:=rfl
theorem as_A(l:List AV):ownA ASF l=l:=rfl
theorem as_store{base:Nat}{prot:Nat→Prop}{S:St}{w w1:World}{mu:Nat→Option Nat}{hw:Nat→Nat}{ti:Id→TI}(I:Inv base prot [] S w mu hw ti){T:TypeId}(hsz:szOf Tryz.prog T=some 1){i b:Nat}{a0 a:AV}{bt:List (Option Nat)}{v:Value}
 (hS:S[i]? =some (.mem [a0] bt false)) (hb:mu i=some b) (hv:isVal a=true) (hcs:a.cells=[a]) (hpl:plain (strip a)=true) (hreg:regBox [] i bt a=(a,[],bt)) (hrv:RV w mu hw (lkS S mu) a v) (hfl:∀lv ti,Flag lv ti a v) (hvc:v.cells= #[v]) (hone:v.oneCell'=true) (hB:Below w.heap.size w w1):
 After Tryz.prog base prot S w mu hw ti (.bool true) (S.set i (.mem [a] bt false)) (.returned (.bool true)) (w1.setCell ⟨b,0,none⟩ v):=by
 obtain⟨vs,el,hvs,hrb⟩:=I.ibox i _ b hS hb
 obtain⟨di,dbase,dlt,dhw,dprot⟩:=I.idom i b hb
 obtain⟨_,y,hy,hry⟩:=hrb.2 0 _ rfl
 obtain⟨I1,e1⟩:=inv_below kept_off I hB (fun _ _=>rfl) (fun b h=>I.iout b (Nat.le_trans hB.size h))
 have hvs1:w1.heap[b]? =some (.cells vs el (0,0)):=by rw[hB.block b dlt];exact hvs
 have he:evStore Tryz.prog ⟨[],[],0⟩ S T (.ptr i 0) a=some ([],S.set i (.mem [a] bt false)):=by
  simp only[evStore,hsz,hS]
  rw[if_pos ⟨hv,by rw[hcs];rfl,by simp,.inr hpl⟩,hreg]
  simp only[hcs]
  rfl
 obtain⟨w2,hrun,hst⟩:=store_sound (P:=Tryz.prog) I1 (E:=⟨[],[],0⟩) rfl (t:=T) (p:=.ptr i 0) (x:=a) (vp:=.pointer (some ⟨b,0,none⟩)) (vx:=v) (.ptr i 0 b hb) (e1.rv hrv) (hfl _ _) he
 have hvl:0<vs.size:=by
  rcases Nat.lt_or_ge 0 vs.size with h|h
  ·exact h
  ·rw[Array.getElem?_eq_none h]at hy;cases hy
 have hrun2:=storeAt_run (P:=Tryz.prog) (w:=w1) (t:=T) (b:=b) (off:=0) (n:=1) (x:=v) hsz (by rw[hvc];rfl) (by rw[hvc];intro y hy;simp at hy;subst hy;exact hone) hvs1 (by omega)
 have hw2:w2=w1.setCell ⟨b,0,none⟩ v:=by
  rw[hrun2]at hrun
  have:=(Result.ok.inj hrun).2
  rw[←this,hvc]
  rfl
 subst hw2
 obtain⟨mu',hw',ti',I2,e2,lv2,_,_,hk2⟩:=hst .nilIface
 refine⟨.bool true,rfl,mu',hw',ti', ?_,e1.trans e2, ?_, ?_, ?_, ?_⟩
 ·exact I2
 ·exact lv2
 ·exact .bool true
 ·trivial
 ·exact hk2
theorem two_args{e t:Value}{vargs:Array Value}(hl:vargs.size=2)(h0:vargs[0]? =some e)(h1:vargs[1]? =some t):vargs= #[e,t]:=by
 apply Array.ext_getElem?
 intro k
 match k with
 |0=>simpa using h0
 |1=>simpa using h1
 |k+2=>
  rw[Array.getElem?_eq_none (by omega)]
  simp
theorem err_in{w:World}{mu:Nat→Option Nat}{hw:Nat→Nat}{lk:Nat→Prop}{e:AV}{n:Int}{v:Value}(h:errIn TA TE 2 e=some n)(hr:RV w mu hw lk e v):
 v=.iface TE (.int .i64 n)∨∃b o,v=.iface TA (.pointer (some ⟨b,o,none⟩))∧w.cell? ⟨b,o+1,none⟩=some (.iface TE (.int .i64 n)):=by
 have one:∀{e:AV}{v:Value},errIn TA TE 1 e=some n→RV w mu hw lk e v→v=.iface TE (.int .i64 n):=by
  intro e v h hr
  unfold errIn at h
  split at h
  ·split at h
   ·rename_i ht
    cases h
    subst ht
    cases hr with
    |ifc _ _ y _ hy=>cases hy;rfl
   ·cases h
  ·split at h
   ·simp[errIn]at h
   ·cases h
  ·cases h
 unfold errIn at h
 split at h
 ·split at h
  ·rename_i ht
   cases h
   subst ht
   cases hr with
   |ifc _ _ y _ hy=>cases hy;exact .inl rfl
  ·cases h
 ·split at h
  ·rename_i ht
   subst ht
   cases hr with
   |ifc _ _ y _ hy=>
    cases hy with
    |rptr _ cs off b o f hr' h1 h2=>
     refine .inr ⟨b,o,by simp, ?_⟩
     obtain⟨_,_,hc⟩:=h1 1 _ rfl
     rw[hc,one h (h2 1 _ rfl)]
  ·cases h
 ·cases h
theorem as_sim:CallSim Tryz.prog (fun g args S=>if g=ASF then asR args S else none):=by
 intro f args S r S' h base prot w mu hw ti vargs I hl ha
 simp only at h
 split at h
 case isFalse=>cases h
 rename_i hf
 subst hf
 rw[as_T]at I
 simp only[as_T,as_A]at ha
 refine⟨body_of Tryz.func43 (by kernel_rfl), ?_⟩
 unfold asR asQ at h
 split at h
 case h_2=>cases h
 rename_i e t i
 obtain⟨v0,h0,r0,_⟩:=ha 0 _ rfl
 obtain⟨v1,h1,r1,_⟩:=ha 1 _ rfl
 obtain⟨hg1,hg2⟩:=I.iglb.2 0 _ (List.mem_cons_self ..)
 have hsz1:szOf Tryz.prog TE=some 1:=by kernel_rfl
 have hsz2:szOf Tryz.prog TA=some 1:=by kernel_rfl
 cases r1 with
 |ifc _ _ v1 _ r1=>
 cases r1 with
 |ptr _ _ b hb=>
 obtain rfl:=two_args (by simpa using hl.symm) h0 h1
 split at h
 ·rename_i ht
  subst ht
  split at h
  case h_2=>cases h
  rename_i n m bt hn hS
  cases h
  obtain⟨vs,el,hvs,hrb⟩:=I.ibox i _ b hS hb
  obtain⟨_,y,hy,hry⟩:=hrb.2 0 _ rfl
  have hcell:w.cell? ⟨b,0,none⟩=some y:=by rw[cell_of_block hvs];exact hy
  have hfro:w.frozen? ⟨b,0,none⟩=false:=by simp[World.frozen?,hvs]
  have hB:=fun(w1:World)(hw1:w1=((((w.alloc (.cells #[.pointer (some ⟨b,0,none⟩)] 99)).alloc (.cells #[.pointer (some ⟨1,99,none⟩),.pointer (some ⟨w.heap.size,0,none⟩),.int .u64 150] 157)).alloc (.cells #[.pointer (some ⟨1,99,none⟩),.pointer (some ⟨w.heap.size,0,none⟩),.int .u64 150] 157)).alloc (.cells #[.int .i64 n] 55)))=>
   (show Below w.heap.size w w1 from hw1▸((((Below.refl _ w).alloc (Nat.le_refl _) _).alloc (by simp) _).alloc (by simp;omega) _).alloc (by simp;omega) _)
  rcases err_in hn r0 with rfl|⟨bb,o,rfl,hce⟩
  ·refine(as_hit n ⟨b,0,none⟩ y w hg2 hcell hfro).mono fun e w' A=>?_
   obtain⟨rfl,rfl⟩:=A
   exact as_store I hsz1 hS hb rfl rfl rfl rfl (.int _ _) (fun _ _=>trivial) rfl rfl (hB _ rfl)
  ·refine(as_hit2 n bb o ⟨b,0,none⟩ y w hg2 hcell hfro hce).mono fun e w' A=>?_
   obtain⟨rfl,rfl⟩:=A
   exact as_store I hsz1 hS hb rfl rfl rfl rfl (.int _ _) (fun _ _=>trivial) rfl rfl (hB _ rfl)
 ·split at h
  case isFalse=>cases h
  rename_i ht
  subst ht
  split at h
  ·rename_i t' cs bt hS _
   split at h
   case isFalse=>cases h
   rename_i ht'
   obtain⟨rfl,hpl⟩:=ht'
   cases h
   obtain⟨vs,el,hvs,hrb⟩:=I.ibox i _ b hS hb
   obtain⟨_,y,hy,hry⟩:=hrb.2 0 _ rfl
   have hcell:w.cell? ⟨b,0,none⟩=some y:=by rw[cell_of_block hvs];exact hy
   have hfro:w.frozen? ⟨b,0,none⟩=false:=by simp[World.frozen?,hvs]
   cases r0 with
   |ifc _ _ x0 _ r0=>
    have r0':=r0
    cases r0 with
    |rptr _ cs off b' o f hr' h1' h2'=>
     simp only[Nat.add_zero]at r0'⊢
     refine(as_hit3 ⟨b',o,none⟩ ⟨b,0,none⟩ y w hg2 hcell hfro).mono fun e w' A=>?_
     obtain⟨rfl,rfl⟩:=A
     exact as_store I hsz2 hS hb rfl rfl (by simpa[strip,plain]using hpl) rfl r0' (fun _ _=>trivial) rfl rfl (((((Below.refl _ w).alloc (Nat.le_refl _) _).alloc (by simp) _).alloc (by simp;omega) _).alloc (by simp;omega) _)
  ·rename_i t' n bt hS _
   split at h
   case isFalse=>cases h
   rename_i ht'
   subst ht'
   cases h
   obtain⟨vs,el,hvs,hrb⟩:=I.ibox i _ b hS hb
   obtain⟨_,y,hy,hry⟩:=hrb.2 0 _ rfl
   have hcell:w.cell? ⟨b,0,none⟩=some y:=by rw[cell_of_block hvs];exact hy
   cases r0 with
   |ifc _ _ x0 _ r0=>
    cases r0 with
    |int=>
     refine(as_miss n ⟨b,0,none⟩ y w hg2 hcell).mono fun e w' A=>?_
     obtain⟨rfl,rfl⟩:=A
     obtain⟨I1,e1⟩:=inv_below kept_off I ((((Below.refl _ w).alloc (Nat.le_refl _) _).alloc (by simp) _).alloc (by simp;omega) _) (fun _ _=>rfl) (fun b h=>I.iout b (Nat.le_trans (by simp;omega) h))
     exact⟨.bool false,rfl,mu,hw,ti,I1,e1,LvExt.refl _ _,.bool false,trivial,fun i hi _=>⟨rfl,hi⟩⟩
  ·cases h
theorem as_old:CallOld (fun g args S=>if g=ASF then asR args S else none):=by
 have set1:∀{S:St}{i:Nat}{a0 a:AV}{bt:List (Option Nat)},S[i]? =some (.mem [a0] bt false)→plain a=true→
  S.length≤(S.set i (.mem [a] bt false)).length∧fineRes (S.set i (.mem [a] bt false)).length (fun k=>decide (S.length≤k)) (.bool true)=true∧Keeps S.length S (S.set i (.mem [a] bt false))∧NewOK S.length (S.set i (.mem [a] bt false)):=by
  intro S i a0 a bt hS hp
  have hw:=Keeps.write (nb:=S.length) (off:=0) (bt':=bt) (l':=false) (new:=[a]) hS (.inr fun m q _=>plainL_lt m q _ (by simp[plainL,hp]))
  rw[splice_all (cs:=[a0]) (vs:=[a]) rfl]at hw
  refine⟨by simp,plainRes_fine rfl _ _,hw,fun k bx hi hk2=>?_⟩
  have:=lt_of_get hk2
  simp at this
  omega
 intro f args S r S' h
 simp only at h
 split at h
 case isFalse=>cases h
 unfold asR asQ at h
 split at h
 case h_2=>cases h
 split at h
 ·split at h
  case h_2=>cases h
  rename_i hS
  cases h
  exact set1 hS rfl
 ·split at h
  case isFalse=>cases h
  split at h
  ·rename_i hS
   split at h
   case isFalse=>cases h
   rename_i ht
   cases h
   exact set1 hS (by simpa[plain]using ht.2)
  ·split at h
   case isFalse=>cases h
   cases h
   exact old_same rfl
  ·cases h
theorem nk_ok:PrimOK Tryz.prog nk:=by
 have one:∀f p,nk.prim f=some p→(f=FIL∧p=fillP)∨(f=ASF∧p=asR):=by
  intro f p h
  simp only[nk,prims,List.lookup]at h
  split at h
  ·rename_i e;cases h;exact .inl ⟨by simpa using e,rfl⟩
  split at h
  ·rename_i e;cases h;exact .inr ⟨by simpa using e,rfl⟩
  ·cases h
 refine⟨fun f p h=>?_,fun f p h=>?_⟩
 ·rcases one f p h with⟨rfl,rfl⟩|⟨rfl,rfl⟩
  ·exact fill_sim
  ·exact as_sim
 ·rcases one f p h with⟨rfl,rfl⟩|⟨rfl,rfl⟩
  ·exact fill_old
  ·exact as_old
end
section
open Go.Lib
def laidB:List (String × DataW Unit):=[("errors.errorType",Rows.laid_errors_errorType)]
theorem laid_two{W:World}(h:laidMetH Tryz.prog laidB W):laidMet Tryz.prog [] W∧handlesMet Tryz.prog laidB W:=h
def layOne(g:Nat)(o:Obj):Obj:=
 match o with
 |.cells _ t frozen=>if g=0 then .cells #[.iface 202 (.agg #[.pointer (some ⟨1,27,none⟩)])] t frozen else o
 |o=>o
noncomputable def laidWorld(os:Os):World:=
 let w0:=World.holding Tryz.prog os ⟨#[],#[],[]⟩
 {w0 with heap:=(List.range 1).foldl (fun h g=>h.modify g (layOne g)) w0.heap}
set_option maxRecDepth 100000 in
theorem laidWorld_A(os:Os)(args:Array Value):laidMet Tryz.prog [] ((laidWorld os).forCall (fun _ _=>0) ⟨#[],args,[]⟩).memory:=
 laidMet_of_run' 8 (by kernel_rfl) (by kernel_rfl)
set_option maxRecDepth 100000 in
theorem laidWorld_B(os:Os)(args:Array Value):laidMetH Tryz.prog laidB ((laidWorld os).forCall (fun _ _=>0) ⟨#[],args,[]⟩).memory:=
 laidMetH_of_parts (laidWorld_A os args) (by kernel_rfl)
theorem glb_B{W:World}(h:laidMetH Tryz.prog laidB W):Glb W (hwOf W):=by
 obtain⟨h1,h2⟩:=laid_two h
 refine⟨fun g=>.undef _,fun g v hv=>?_⟩
 obtain⟨name,u,ty,e1,e2,e3,e4,e5⟩:=h2 _ (List.mem_singleton.2 rfl)
 have en:name=[101,114,114,111,114]:=(Option.some.inj e1).symm
 subst en
 obtain rfl:=Option.some.inj ((show(Tryz.prog.cutTypes.find? (·.1== "internal/reflectlite.rtype")).map (·.2)=some 202 by kernel_rfl).symm.trans e2)
 have hm:ty∈(List.range Tryz.prog.types.size).filter fun t=>Tryz.prog.rowNamed t [101,114,114,111,114]:=List.mem_filter.2 ⟨List.mem_range.2 e3,e4⟩
 rw[show(List.range Tryz.prog.types.size).filter (fun t=>Tryz.prog.rowNamed t [101,114,114,111,114])=[27]by kernel_rfl]at hm
 obtain rfl:=List.mem_singleton.1 hm
 rw[show typeHandle Tryz.prog 27=.pointer (some ⟨1,27,none⟩)by kernel_rfl]at e5
 have hg:Tryz.prog.globalNamed "errors.errorType" =some 0:=by kernel_rfl
 have hc:W.cell? ⟨0,0,none⟩=some (.iface 202 (.agg #[.pointer (some ⟨1,27,none⟩)])):=by simpa using World.var?_cell hg e5 0
 simp only[globRaw,List.mem_singleton]at hv
 cases hv
 exact⟨hwOf_cell hc,hc⟩
end
section
open Go.ChangeShapes
section
variable{H:Type}{enc:TypeId × Value→H}{P:Program}
theorem stays_all(hl:laidOutB P=true){W W':World}(hb:Below W.heap.size W W'){sp:Nat→Bool}:∀{ts:List TypeId}{vs:List Value}{ds:List (DataW H)}{ps:List MemPlace},(∀t∈ts,P.readableRec t=true∧t<P.types.size)→
 DataW.TrodAll enc P W 0 (fun _=>true) true ts vs ds ps→(∀p∈ps,p.block<W.heap.size∧sp p.block=true)→DataW.TrodAll enc P W' 0 sp true ts vs ds ps
 |[],[],[],ps,_,h,_=>h
 |t::ts,v::vs,d::ds,ps,ht,⟨p,q,h1,h2,e⟩,hs=>by
  subst e
  refine⟨p,q,WideElems.Trod_stays hl (ht t (by simp)).1 (ht t (by simp)).2 h1 (fun x hx=>hb.same (hs x (by simp[hx])).1) (fun x hx=>(hs x (by simp[hx])).2), ?_,rfl⟩
  exact stays_all hl hb (fun t' h'=>ht t' (by simp[h'])) h2 fun x hx=>hs x (by simp[hx])
 |[],_::_,_,_,_,h,_=>h.elim
 |[],[],_::_,_,_,h,_=>h.elim
 |_::_,[],_,_,_,h,_=>h.elim
 |_::_,_::_,[],_,_,h,_=>h.elim
theorem law_post{f:Func}{s:ChangeSpec}{apart fresh handsOn again:Bool}{W W':World}{args:Array Value}{ds gs:List (DataW H)}{before:List MemPlace}{tb:TypeId}
 (hl:laidOutB P=true) (hts:∀t∈f.params.toList,P.readableRec t=true∧t<P.types.size) (hvars:s.vars=[]) (hres:f.resultTypes= #[tb]) (htb:P.underlying tb=some .bool)
 (hfn:gs=[]→s.fn H (ds++gs)={results:=[.lit (.bool true)],args:=ds})
 (hW:DataW.Whole enc P f.params.toList s.vars apart W args.toList ds gs before) (hb:Below W.heap.size W W'):s.post enc P f apart fresh handsOn again W args (.bool true) W':=by
 have hlt:=hW.lt
 have hW':=hW
 obtain⟨p,q,hA,hV,rfl,hz,hn⟩:=hW
 rw[hvars]at hV
 obtain⟨rfl,rfl⟩:=trodVars_none hV
 have e:=hfn rfl
 rw[List.append_nil]at e hlt hz hn
 have hr:(Value.bool true).resultList f.resultTypes.size=[.bool true]:=by rw[hres];rfl
 have res:∀(b:Nat)(sp:Nat→Bool)(hd:Bool),DataW.TrodAll enc P W' b sp hd f.resultTypes.toList ((Value.bool true).resultList f.resultTypes.size) [.lit (.bool true)] []:=by
  intro b sp hd
  rw[hr,hres]
  exact⟨[],[],shut_bool htb true,rfl,rfl⟩
 have args':∀sp:Nat→Bool,(∀x∈p,sp x.block=true)→DataW.TrodAll enc P W' 0 sp true f.params.toList args.toList ds p:=
  fun sp h=>stays_all hl hb hts hA fun x hx=>⟨hlt x hx,h x hx⟩
 refine⟨ds,[],p++[],[],p,[],hW', ?_, ?_, ?_,hb.frame _,fun _=>?_⟩
 ·rw[List.append_nil,e];exact res _ _ _
 ·rw[List.append_nil,e];exact args' _ fun x hx=>by simpa using hlt x hx
 ·rw[hvars,List.append_nil,e];rfl
 ·refine⟨ok_one hres rfl (okWide_bool_mk htb true),[.lit (.bool true)]++ds,[],p,⟨[]++p,[],trodAll_append (args' _ fun _ _=>rfl) (res _ _ _),by rw[hvars];rfl,by simp, ?_,fun ha=>hn ha⟩,fun x hx _=>by simpa using hx⟩
  intro b off hp
  have:=hb.frozen (p:=⟨b,off,none⟩) (hlt _ hp)
  rw[this]
  exact hz b off hp
end
end
end Go.Proofs.YthiocmkadpdekaaGreatDoor.am
