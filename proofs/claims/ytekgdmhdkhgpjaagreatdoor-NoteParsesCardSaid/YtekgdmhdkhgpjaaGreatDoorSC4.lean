/- The smaller code: its runs, as equations that a simplifier may use. -/
import Derived.Test.YtekgdmhdkhgpjaaGreatDoorSC3
set_option linter.unusedSimpArgs false
set_option linter.unusedVariables false
namespace Go.Proofs.YtekgdmhdkhgpjaaGreatDoor.am
open Go
section
variable {lib:FuncId → Option KF} {nk:NK} {call:Caller}
def nextK (call:Caller) (r:List KO):Option (AV × KEnv × St) → Option (KEnv × St)
  | some (_,K,S) => evKs call r K S
  | none => none
def nextT (call:Caller) (r:List KD) (ss:List St) (ls:List KLd) (d:KD) (K0:KEnv):Option (AV × KEnv × St) → Option (KEnv × St × List St × List KLd)
  | some (v,K,S) => evKTr call r K S (if d.eff then ss ++ [S] else ss) (ldK K0 d v ls)
  | none => none
def putK (K:KEnv) (d:Option Nat):Option (AV × List (Option Nat) × St) → Option (AV × KEnv × St)
  | some (v,tips,S) => some (v,K.put d v tips,S)
  | none => none
def goK (call:Caller) (K:KEnv) (S:St) (d:Option Nat) (op:KOp):Option Bool → Option (AV × KEnv × St)
  | some true => putK K d (evK1 call K S op)
  | some false => some (.undef,K.put d (.tup []) K.tips,S)
  | none => none
def gdV (want:Bool):AV → Option Bool
  | .bool b => some (b == want)
  | .tup [] => some false
  | _ => none
def endD (x:Option (KEnv × St × List St × List KLd)):Option (KEnv × St) :=
  match x with
  | some (K,S,ss,ls) => if ldsOK ss ls then some (K,S) else none
  | none => none
def ldV (d:Nat) (h:Nat) (K0:KEnv) (v:AV) (ls:List KLd) (op:KOp):Option Bool → List KLd
  | some true => match op with
    | .load sh p => ⟨d,h,sh,KE.ev K0.sl p,v⟩ :: ls
    | _ => ls
  | _ => ls
@[simp] theorem evKs_nil (K:KEnv) (S:St):evKs call [] K S=some (K,S):=rfl
@[simp] theorem evKs_cons (o:KO) (r:List KO) (K:KEnv) (S:St):evKs call (o :: r) K S=nextK call r (evKO call K S o):=by
  simp only [evKs,nextK]
  split <;> simp_all
@[simp] theorem nextK_some (r:List KO) (v:AV) (K:KEnv) (S:St):nextK call r (some (v,K,S))=evKs call r K S:=rfl
@[simp] theorem nextK_none (r:List KO):nextK call r none=none:=rfl
@[simp] theorem evKTr_nil (K:KEnv) (S:St) (ss:List St) (ls:List KLd):evKTr call [] K S ss ls=some (K,S,ss,ls):=rfl
@[simp] theorem evKTr_cons (d:KD) (r:List KD) (K:KEnv) (S:St) (ss:List St) (ls:List KLd):evKTr call (d :: r) K S ss ls=nextT call r ss ls d K (evKO call K S d.o):=by
  simp only [evKTr,nextT]
  split <;> simp_all
@[simp] theorem nextT_some (r:List KD) (ss:List St) (ls:List KLd) (o:KO) (e:Bool) (lo hi:Nat) (K0:KEnv) (v:AV) (K:KEnv) (S:St) :
    nextT call r ss ls ⟨o,e,lo,hi⟩ K0 (some (v,K,S))=evKTr call r K S (if e then ss ++ [S] else ss) (ldV lo hi K0 v ls o.op (gdK K0 o.gd)):=by
  simp only [nextT,ldK,ldV]
  congr 1
  cases gdK K0 o.gd with
  | none => rfl
  | some b => cases b <;> cases o.op <;> rfl
@[simp] theorem nextT_none (r:List KD) (ss:List St) (ls:List KLd) (d:KD) (K0:KEnv):nextT call r ss ls d K0 none=none:=rfl
@[simp] theorem ldV_p (lo hi:Nat) (K0:KEnv) (v:AV) (ls:List KLd) (k:KP) (g:Option Bool):ldV lo hi K0 v ls (.p k) g=ls:=by cases g with | none => rfl | some b => cases b <;> rfl
@[simp] theorem ldV_call (lo hi:Nat) (K0:KEnv) (v:AV) (ls:List KLd) (f:KV) (a:List KV) (g:Option Bool):ldV lo hi K0 v ls (.call f a) g=ls:=by cases g with | none => rfl | some b => cases b <;> rfl
@[simp] theorem ldV_app (lo hi:Nat) (K0:KEnv) (v:AV) (ls:List KLd) (n:Nat) (f a:KV) (g:Option Bool):ldV lo hi K0 v ls (.app n f a) g=ls:=by cases g with | none => rfl | some b => cases b <;> rfl
@[simp] theorem ldV_store (lo hi:Nat) (K0:KEnv) (v:AV) (ls:List KLd) (n:Nat) (f a:KV) (g:Option Bool):ldV lo hi K0 v ls (.store n f a) g=ls:=by cases g with | none => rfl | some b => cases b <;> rfl
@[simp] theorem ldV_cpy (lo hi:Nat) (K0:KEnv) (v:AV) (ls:List KLd) (n:Nat) (f a:KV) (g:Option Bool):ldV lo hi K0 v ls (.cpy n f a) g=ls:=by cases g with | none => rfl | some b => cases b <;> rfl
@[simp] theorem ldV_byt (lo hi:Nat) (K0:KEnv) (v:AV) (ls:List KLd) (a:KV) (g:Option Bool):ldV lo hi K0 v ls (.byt a) g=ls:=by cases g with | none => rfl | some b => cases b <;> rfl
@[simp] theorem ldV_bsl (lo hi:Nat) (K0:KEnv) (v:AV) (ls:List KLd) (a:Nat) (z:List AV) (n:Nat) (ps:List (Nat × KV)) (g:Option Bool):ldV lo hi K0 v ls (.bsl a z n ps) g=ls:=by cases g with | none => rfl | some b => cases b <;> rfl
@[simp] theorem ldV_load (lo hi:Nat) (K0:KEnv) (v:AV) (ls:List KLd) (sh:Sh) (p:KV):ldV lo hi K0 v ls (.load sh p) (some true)=⟨lo,hi,sh,KE.ev K0.sl p,v⟩ :: ls:=rfl
@[simp] theorem ldV_false (lo hi:Nat) (K0:KEnv) (v:AV) (ls:List KLd) (op:KOp):ldV lo hi K0 v ls op (some false)=ls:=rfl
@[simp] theorem evKO_mk (K:KEnv) (S:St) (d:Option Nat) (g:Option (Nat × Bool)) (op:KOp):evKO call K S ⟨d,g,op⟩=goK call K S d op (gdK K g):=by
  simp only [evKO,goK]
  cases gdK K g with
  | none => rfl
  | some b =>
    cases b with
    | false => rfl
    | true =>
      simp only [putK]
      cases evK1 call K S op <;> rfl
@[simp] theorem goK_true (K:KEnv) (S:St) (d:Option Nat) (op:KOp):goK call K S d op (some true)=putK K d (evK1 call K S op):=rfl
@[simp] theorem goK_false (K:KEnv) (S:St) (d:Option Nat) (op:KOp):goK call K S d op (some false)=some (.undef,K.put d (.tup []) K.tips,S):=rfl
@[simp] theorem putK_some (K:KEnv) (d:Option Nat) (v:AV) (tips:List (Option Nat)) (S:St):putK K d (some (v,tips,S))=some (v,K.put d v tips,S):=rfl
@[simp] theorem putK_none (K:KEnv) (d:Option Nat):putK K d none=none:=rfl
@[simp] theorem gdK_none (K:KEnv):gdK K none=some true:=rfl
@[simp] theorem gdK_some (K:KEnv) (t:Nat) (want:Bool):gdK K (some (t,want))=gdV want (KE.get K.sl t):=by simp only [gdK,gdV]; split <;> simp_all
@[simp] theorem gdV_true (b:Bool):gdV true (.bool b)=some b:=by cases b <;> rfl
@[simp] theorem gdV_false (b:Bool):gdV false (.bool b)=some (!b):=by cases b <;> rfl
@[simp] theorem gdV_tup (w:Bool):gdV w (.tup [])=some false:=rfl
@[simp] theorem put_some (sl:KE) (tips:List (Option Nat)) (nb:Nat) (d:Nat) (v:AV) (tips':List (Option Nat)):KEnv.put ⟨sl,tips,nb⟩ (some d) v tips'=⟨(d,v) :: sl,tips',nb⟩:=rfl
@[simp] theorem put_none (sl:KE) (tips:List (Option Nat)) (nb:Nat) (v:AV) (tips':List (Option Nat)):KEnv.put ⟨sl,tips,nb⟩ none v tips'=⟨sl,tips',nb⟩:=rfl
@[simp] theorem get_nil (t:Nat):KE.get [] t=.undef:=rfl
@[simp] theorem get_cons (d:Nat) (v:AV) (r:KE) (t:Nat):KE.get ((d,v) :: r) t=if d=t then v else KE.get r t:=rfl
@[simp] theorem ev_t (E:KE) (n:Nat):KE.ev E (.t n)=KE.get E n:=rfl
@[simp] theorem ev_c (E:KE) (v:AV):KE.ev E (.c v)=v:=rfl
@[simp] theorem evKD_eq (al:List (Nat × List AV)) (l:List KD) (K:KEnv) (S:St):evKD call al l K S=endD (evKTr call l (evKAl al K S).1 (evKAl al K S).2 [(evKAl al K S).2] []):=by
  unfold evKD endD
  split <;> simp_all
@[simp] theorem endD_some (K:KEnv) (S:St) (ss:List St) (ls:List KLd):endD (some (K,S,ss,ls))=if ldsOK ss ls then some (K,S) else none:=rfl
@[simp] theorem endD_none:endD none=none:=rfl
@[simp] theorem evKAl_nil (K:KEnv) (S:St):evKAl [] K S=(K,S):=rfl
@[simp] theorem evKAl_cons (d:Nat) (z:List AV) (r:List (Nat × List AV)) (K:KEnv) (S:St):evKAl ((d,z) :: r) K S=evKAl r (K.put (some d) (.ptr S.length 0) K.tips) (S ++ [.mem z [] false]):=rfl
@[simp] theorem ldsOK_nil (ss:List St):ldsOK ss []=true:=rfl
def ldOK1 (l:KLd) (S:St):Bool:=match loadK S l.sh l.at_ with
  | some v => avEq v l.val
  | none => false
@[simp] theorem ldsOK_cons (ss:List St) (l:KLd) (ls:List KLd):ldsOK ss (l :: ls)=(((ss.take (l.hi + 1)).drop l.lo).all (ldOK1 l) && ldsOK ss ls):=rfl
mutual
theorem avEq_refl:∀ a:AV,avEq a a=true
  | .undef => rfl
  | .bool b => by simp [avEq]
  | .int k n => by simp [avEq]
  | .str s => by simp [avEq]
  | .nilp => rfl
  | .ptr i o => by simp [avEq]
  | .rptr r cs o => by simp [avEq,avEqL_refl cs]
  | .nils => rfl
  | .sl r sz es => by simp [avEq,avEqLL_refl es]
  | .aref i o l c z => by simp [avEq]
  | .oref i o l z => by simp [avEq]
  | .fn f a b => by simp [avEq,avEqL_refl a,avEqL_refl b]
  | .nilfn => rfl
  | .ifc t v => by simp [avEq,avEq_refl v]
  | .nili => rfl
  | .agg cs => by simp [avEq,avEqL_refl cs]
  | .tup cs => by simp [avEq,avEqL_refl cs]
theorem avEqL_refl:∀ l:List AV,avEqL l l=true
  | [] => rfl
  | a :: r => by simp [avEqL,avEq_refl a,avEqL_refl r]
theorem avEqLL_refl:∀ l:List (List AV),avEqLL l l=true
  | [] => rfl
  | a :: r => by simp [avEqLL,avEqL_refl a,avEqLL_refl r]
end
@[simp] theorem ldOK1_mk (lo hi:Nat) (sh:Sh) (p v:AV) (S:St):ldOK1 ⟨lo,hi,sh,p,v⟩ S=(match loadK S sh p with | some v' => avEq v' v | none => false):=rfl
@[simp] theorem avEq_self (a:AV):avEq a a=true:=avEq_refl a
def pureK (tips:List (Option Nat)) (S:St):Option AV → Option (AV × List (Option Nat) × St)
  | some v => some (v,tips,S)
  | none => none
def memK:Option (List (Option Nat) × St) → Option (AV × List (Option Nat) × St)
  | some r => some (.undef,r.1,r.2)
  | none => none
def cpyK (tips:List (Option Nat)):Option (AV × St) → Option (AV × List (Option Nat) × St)
  | some r => some (r.1,tips,r.2)
  | none => none
@[simp] theorem pureK_some (tips:List (Option Nat)) (S:St) (v:AV):pureK tips S (some v)=some (v,tips,S):=rfl
@[simp] theorem pureK_none (tips:List (Option Nat)) (S:St):pureK tips S none=none:=rfl
@[simp] theorem memK_some (tips:List (Option Nat)) (S:St):memK (some (tips,S))=some (.undef,tips,S):=rfl
@[simp] theorem memK_none:memK none=none:=rfl
@[simp] theorem cpyK_some (tips:List (Option Nat)) (v:AV) (S:St):cpyK tips (some (v,S))=some (v,tips,S):=rfl
@[simp] theorem cpyK_none (tips:List (Option Nat)):cpyK tips none=none:=rfl
@[simp] theorem evK1_p (sl:KE) (tips:List (Option Nat)) (nb:Nat) (S:St) (k:KP):evK1 call ⟨sl,tips,nb⟩ S (.p k)=pureK tips S (evKP (KE.ev sl) k):=by
  simp only [evK1]; cases evKP (KE.ev sl) k <;> rfl
@[simp] theorem evK1_alloc (K:KEnv) (S:St) (z:List AV):evK1 call K S (.alloc z)=some (.ptr S.length 0,K.tips,S ++ [.mem z [] false]):=rfl
@[simp] theorem evK1_box (sl:KE) (tips:List (Option Nat)) (nb:Nat) (S:St) (n:Nat) (x:KV):evK1 call ⟨sl,tips,nb⟩ S (.box n x) =
    if isVal (KE.ev sl x)=true ∧ (KE.ev sl x).cells.length=n then some (.ptr S.length 0,tips,S ++ [.mem ((strip (KE.ev sl x)).cells) [] false]) else none:=rfl
@[simp] theorem evK1_load (sl:KE) (tips:List (Option Nat)) (nb:Nat) (S:St) (sh:Sh) (p:KV):evK1 call ⟨sl,tips,nb⟩ S (.load sh p)=pureK tips S (loadK S sh (KE.ev sl p)):=by
  simp only [evK1]; cases loadK S sh (KE.ev sl p) <;> rfl
@[simp] theorem evK1_store (sl:KE) (tips:List (Option Nat)) (nb:Nat) (S:St) (n:Nat) (p x:KV):evK1 call ⟨sl,tips,nb⟩ S (.store n p x)=memK (storeK tips nb S n (KE.ev sl p) (KE.ev sl x)):=by
  simp only [evK1]; cases storeK tips nb S n (KE.ev sl p) (KE.ev sl x) <;> rfl
@[simp] theorem evK1_app (sl:KE) (tips:List (Option Nat)) (nb:Nat) (S:St) (sz:Nat) (s x:KV):evK1 call ⟨sl,tips,nb⟩ S (.app sz s x)=appendK sz tips S (KE.ev sl s) (KE.ev sl x):=rfl
@[simp] theorem evK1_cpy (sl:KE) (tips:List (Option Nat)) (nb:Nat) (S:St) (sz:Nat) (d x:KV):evK1 call ⟨sl,tips,nb⟩ S (.cpy sz d x)=cpyK tips (copyK nb S sz (KE.ev sl d) (KE.ev sl x)):=by
  simp only [evK1]; cases copyK nb S sz (KE.ev sl d) (KE.ev sl x) <;> rfl
@[simp] theorem evK1_bsl (sl:KE) (tips:List (Option Nat)) (nb:Nat) (S:St) (sz:Nat) (z:List AV) (len:Nat) (ps:List (Nat × KV)) :
    evK1 call ⟨sl,tips,nb⟩ S (.bsl sz z len ps)=pureK tips S ((fillEs sz (List.replicate len z) (ps.map fun x => (x.1,KE.ev sl x.2))).map fun es => .sl .exact sz es):=by
  simp only [evK1]; cases fillEs sz (List.replicate len z) (ps.map fun x => (x.1,KE.ev sl x.2)) <;> rfl
@[simp] theorem evK1_appO (sl:KE) (tips:List (Option Nat)) (nb:Nat) (S:St) (sz:Nat) (s x:KV):evK1 call ⟨sl,tips,nb⟩ S (.appO sz s x)=cpyK tips (appendOK sz S (KE.ev sl s) (KE.ev sl x)):=by
  simp only [evK1]; cases appendOK sz S (KE.ev sl s) (KE.ev sl x) <;> rfl
def clrK (tips:List (Option Nat)):Option St → Option (AV × List (Option Nat) × St)
  | some S => some (.tup [],tips,S)
  | none => none
@[simp] theorem clrK_some (tips:List (Option Nat)) (S:St):clrK tips (some S)=some (.tup [],tips,S):=rfl
@[simp] theorem clrK_none (tips:List (Option Nat)):clrK tips none=none:=rfl
@[simp] theorem evK1_clr (sl:KE) (tips:List (Option Nat)) (nb:Nat) (S:St) (sz:Nat) (z:List AV) (d:KV):evK1 call ⟨sl,tips,nb⟩ S (.clr sz z d)=clrK tips (clearK sz z S (KE.ev sl d)):=by
  simp only [evK1]; cases clearK sz z S (KE.ev sl d) <;> rfl
@[simp] theorem evK1_mk (sl:KE) (tips:List (Option Nat)) (nb:Nat) (S:St) (sz:Nat) (z:List AV) (l c:KV):evK1 call ⟨sl,tips,nb⟩ S (.mk sz z l c)=cpyK tips (makeK sz z S (KE.ev sl l) (KE.ev sl c)):=by
  simp only [evK1]; cases makeK sz z S (KE.ev sl l) (KE.ev sl c) <;> rfl
@[simp] theorem evK1_rng (sl:KE) (tips:List (Option Nat)) (nb:Nat) (S:St) (x:KV):evK1 call ⟨sl,tips,nb⟩ S (.rng x)=cpyK tips (rangeK S (KE.ev sl x)):=by
  simp only [evK1]; cases rangeK S (KE.ev sl x) <;> rfl
@[simp] theorem evK1_bst (sl:KE) (tips:List (Option Nat)) (nb:Nat) (S:St) (x:KV):evK1 call ⟨sl,tips,nb⟩ S (.bst x)=pureK tips S (strM S (KE.ev sl x)):=by
  simp only [evK1]; cases strM S (KE.ev sl x) <;> rfl
@[simp] theorem ldV_bst (lo hi:Nat) (K0:KEnv) (v:AV) (ls:List KLd) (a:KV) (g:Option Bool):ldV lo hi K0 v ls (.bst a) g=ls:=by cases g with | none => rfl | some b => cases b <;> rfl
@[simp] theorem evK1_nxt (sl:KE) (tips:List (Option Nat)) (nb:Nat) (S:St) (x:KV):evK1 call ⟨sl,tips,nb⟩ S (.nxt x)=cpyK tips (evNext S (KE.ev sl x)):=by
  simp only [evK1]; cases evNext S (KE.ev sl x) <;> rfl
@[simp] theorem evK1_bad (sl:KE) (tips:List (Option Nat)) (nb:Nat) (S:St):evK1 call ⟨sl,tips,nb⟩ S .bad=none:=rfl
@[simp] theorem ldV_appO (lo hi:Nat) (K0:KEnv) (v:AV) (ls:List KLd) (n:Nat) (f a:KV) (g:Option Bool):ldV lo hi K0 v ls (.appO n f a) g=ls:=by cases g with | none => rfl | some b => cases b <;> rfl
@[simp] theorem ldV_clr (lo hi:Nat) (K0:KEnv) (v:AV) (ls:List KLd) (n:Nat) (z:List AV) (a:KV) (g:Option Bool):ldV lo hi K0 v ls (.clr n z a) g=ls:=by cases g with | none => rfl | some b => cases b <;> rfl
@[simp] theorem ldV_mk (lo hi:Nat) (K0:KEnv) (v:AV) (ls:List KLd) (n:Nat) (z:List AV) (a b:KV) (g:Option Bool):ldV lo hi K0 v ls (.mk n z a b) g=ls:=by cases g with | none => rfl | some b => cases b <;> rfl
@[simp] theorem ldV_rng (lo hi:Nat) (K0:KEnv) (v:AV) (ls:List KLd) (a:KV) (g:Option Bool):ldV lo hi K0 v ls (.rng a) g=ls:=by cases g with | none => rfl | some b => cases b <;> rfl
@[simp] theorem ldV_nxt (lo hi:Nat) (K0:KEnv) (v:AV) (ls:List KLd) (a:KV) (g:Option Bool):ldV lo hi K0 v ls (.nxt a) g=ls:=by cases g with | none => rfl | some b => cases b <;> rfl
@[simp] theorem evK1_byt (sl:KE) (tips:List (Option Nat)) (nb:Nat) (S:St) (x:KV):evK1 call ⟨sl,tips,nb⟩ S (.byt x)=pureK tips S (bytK (KE.ev sl x)):=by
  simp only [evK1]; cases bytK (KE.ev sl x) <;> rfl
def backK (tips:List (Option Nat)) (S:St) (args:List AV):Option (AV × St) → Option (AV × List (Option Nat) × St)
  | some (r,S') => some ((takeRet tips r).1,(takeRet tips r).2,unlockAll S S' args)
  | none => none
def argsOK (S:St):List AV → Option (List AV)
  | [] => some []
  | a :: r => match giveArg S a,argsOK S r with
    | some a,some r => some (a :: r)
    | _,_ => none
def sendK (call:Caller) (tips:List (Option Nat)) (S:St) (f:FuncId) (args:List AV):Option (List AV) → Option (AV × List (Option Nat) × St)
  | some args' => backK tips S args (call f args' (lockAll S args))
  | none => none
theorem argsOK_eq (S:St):∀ l:List AV,l.mapM (giveArg S)=argsOK S l
  | [] => rfl
  | a :: r => by
    rw [List.mapM_cons,argsOK_eq S r]
    simp only [argsOK]
    cases giveArg S a with
    | none => rfl
    | some a => cases argsOK S r <;> rfl
@[simp] theorem evK1_call (sl:KE) (tips:List (Option Nat)) (nb:Nat) (S:St) (f:KV) (args:List KV):evK1 call ⟨sl,tips,nb⟩ S (.call f args)=callK call tips S (KE.ev sl f) (args.map (KE.ev sl)):=rfl
def rawsOK:List AV → Option (List AV)
  | [] => some []
  | a :: r => match rawArg a,rawsOK r with
    | some a,some r => some (a :: r)
    | _,_ => none
theorem rawsOK_eq:∀ l:List AV,l.mapM rawArg=rawsOK l
  | [] => rfl
  | a :: r => by
    rw [List.mapM_cons,rawsOK_eq r]
    simp only [rawsOK]
    cases rawArg a with
    | none => rfl
    | some a => cases rawsOK r <;> rfl
def backR (tips:List (Option Nat)):Option (AV × St) → Option (AV × List (Option Nat) × St)
  | some (r,S') => some ((takeRet tips r).1,(takeRet tips r).2,S')
  | none => none
def sendR (call:Caller) (tips:List (Option Nat)) (S:St) (f:FuncId):Option (List AV) → Option (AV × List (Option Nat) × St)
  | some args' => backR tips (call f args' S)
  | none => none
def sendX (call:Caller) (tips:List (Option Nat)) (S:St) (f:FuncId) (args:List AV):Bool → Option (AV × List (Option Nat) × St)
  | true => sendR call tips S f (rawsOK args)
  | false => sendK call tips S f args (argsOK S args)
@[simp] theorem sendX_true (tips:List (Option Nat)) (S:St) (f:FuncId) (args:List AV):sendX call tips S f args true=sendR call tips S f (rawsOK args):=rfl
@[simp] theorem sendX_false (tips:List (Option Nat)) (S:St) (f:FuncId) (args:List AV):sendX call tips S f args false=sendK call tips S f args (argsOK S args):=rfl
@[simp] theorem callK_fn (tips:List (Option Nat)) (S:St) (g:FuncId) (a b args:List AV):callK call tips S (.fn g a b) args=sendX call tips S g (a ++ (args ++ b)) (rawF g):=by
  simp only [callK,calleeK,List.append_assoc]
  rw [argsOK_eq,rawsOK_eq]
  cases rawF g with
  | true =>
    simp only [if_true,sendX,sendR]
    cases rawsOK (a ++ (args ++ b)) with
    | none => rfl
    | some args' =>
      simp only [backR]
      cases call g args' S <;> rfl
  | false =>
    simp only [Bool.false_eq_true,if_false,sendX,sendK,backK]
    cases argsOK S (a ++ (args ++ b)) with
    | none => rfl
    | some args' =>
      simp only
      cases call g args' (lockAll S (a ++ (args ++ b))) <;> rfl
def primK (nk:NK) (call:Caller) (S:St) (f:FuncId) (args:List AV):Option (List AV → St → Option (AV × St)) → Option (AV × St)
  | some p => p args S
  | none => call f (args.map (if nk.keep f=true then normn else norm)) S
@[simp] theorem primK_some (S:St) (f:FuncId) (args:List AV) (p:List AV → St → Option (AV × St)):primK nk call S f args (some p)=p args S:=rfl
@[simp] theorem primK_none (S:St) (f:FuncId) (args:List AV):primK nk call S f args none=call f (args.map (if nk.keep f=true then normn else norm)) S:=rfl
@[simp] theorem sendK_some (tips:List (Option Nat)) (S:St) (f:FuncId) (args args':List AV):sendK (viaK nk call) tips S f args (some args')=backK tips S args (primK nk call (lockAll S args) f args' (nk.prim f)):=by
  simp only [sendK,viaK,primK]
  cases nk.prim f <;> rfl
@[simp] theorem sendR_some (tips:List (Option Nat)) (S:St) (f:FuncId) (args':List AV):sendR (viaK nk call) tips S f (some args')=backR tips (primK nk call S f args' (nk.prim f)):=by
  simp only [sendR,viaK,primK]
  cases nk.prim f <;> rfl
@[simp] theorem sendR_none (tips:List (Option Nat)) (S:St) (f:FuncId):sendR call tips S f none=none:=rfl
@[simp] theorem backR_some (tips:List (Option Nat)) (r:AV) (S':St):backR tips (some (r,S'))=some ((takeRet tips r).1,(takeRet tips r).2,S'):=rfl
@[simp] theorem backR_none (tips:List (Option Nat)):backR tips none=none:=rfl
@[simp] theorem rawsOK_nil:rawsOK []=some []:=rfl
@[simp] theorem rawsOK_cons (a:AV) (r:List AV):rawsOK (a :: r)=match rawArg a,rawsOK r with
    | some a,some r => some (a :: r)
    | _,_ => none:=rfl
@[simp] theorem sendK_none (tips:List (Option Nat)) (S:St) (f:FuncId) (args:List AV):sendK call tips S f args none=none:=rfl
@[simp] theorem backK_some (tips:List (Option Nat)) (S:St) (args:List AV) (r:AV) (S':St):backK tips S args (some (r,S'))=some ((takeRet tips r).1,(takeRet tips r).2,unlockAll S S' args):=rfl
@[simp] theorem backK_none (tips:List (Option Nat)) (S:St) (args:List AV):backK tips S args none=none:=rfl
@[simp] theorem argsOK_nil (S:St):argsOK S []=some []:=rfl
@[simp] theorem argsOK_cons (S:St) (a:AV) (r:List AV):argsOK S (a :: r)=match giveArg S a,argsOK S r with
    | some a,some r => some (a :: r)
    | _,_ => none:=rfl
@[simp] theorem DC_ops' (l:List KO) (E:KEnv) (S:St):DC lib nk (.ops l) E S=regC (evKs (viaK nk (DF lib nk)) l E S):=DC_ops l E S
@[simp] theorem DC_draw' (al:List (Nat × List AV)) (l:List KD) (E:KEnv) (S:St):DC lib nk (.draw al l) E S=regC (evKD (viaK nk (DF lib nk)) al l E S):=DC_draw al l E S
noncomputable def seqC (lib:FuncId → Option KF) (nk:NK) (b:KC) (x:Option (Out × KEnv × St)):Option (Out × KEnv × St):=thenC x fun E S => DC lib nk b E S
@[simp] theorem DC_seq' (a b:KC) (E:KEnv) (S:St):DC lib nk (.seq a b) E S=seqC lib nk b (DC lib nk a E S):=DC_seq a b E S
@[simp] theorem seqC_normal (b:KC) (E:KEnv) (S:St):seqC lib nk b (some (.normal,E,S))=DC lib nk b E S:=rfl
@[simp] theorem seqC_ret (b:KC) (E:KEnv) (S:St):seqC lib nk b (some (.ret,E,S))=some (.ret,E,S):=rfl
@[simp] theorem seqC_exit (id:Nat) (b:KC) (E:KEnv) (S:St):seqC lib nk b (some (.exit id,E,S))=some (.exit id,E,S):=rfl
@[simp] theorem seqC_none (b:KC):seqC lib nk b none=none:=rfl
theorem DC_loop' (b:KC) (E:KEnv) (S:St):DC lib nk (.loop b) E S=seqC lib nk (.loop b) (DC lib nk b E S):=DC_loop b E S
@[simp] theorem DC_cond' (x:KV) (a b:KC) (E:KEnv) (S:St):DC lib nk (.cond x a b) E S=condC (KE.ev E.sl x) (DC lib nk a E S) (DC lib nk b E S):=DC_cond x a b E S
@[simp] theorem DC_block' (id:Nat) (b:KC) (E:KEnv) (S:St):DC lib nk (.block id b) E S=blockC id (DC lib nk b E S):=DC_block id b E S
@[simp] theorem DC_skip' (E:KEnv) (S:St):DC lib nk .skip E S=some (.normal,E,S):=DC_skip E S
@[simp] theorem DC_ret' (E:KEnv) (S:St):DC lib nk .ret E S=some (.ret,E,S):=DC_ret E S
@[simp] theorem DC_exit' (id:Nat) (E:KEnv) (S:St):DC lib nk (.exit id) E S=some (.exit id,E,S):=DC_exit id E S
@[simp] theorem DC_keep' (l:List Nat) (k:KC) (K:KEnv) (S:St):DC lib nk (.keep l k) K S=DC lib nk k (K.keep l) S:=DC_keep l k K S
@[simp] theorem DC_norm' (l:List Nat) (k:KC) (K:KEnv) (S:St):DC lib nk (.norm l k) K S=DC lib nk k (K.norm l) S:=DC_norm l k K S
@[simp] theorem DC_scope' (b:KC) (K:KEnv) (S:St):DC lib nk (.scope b) K S=DC lib nk b K S:=DC_scope b K S
@[simp] theorem DC_fuse' (al:List (Nat × List AV)) (l:List KD) (k:List KO) (K:KEnv) (S:St):DC lib nk (.fuse al l k) K S=DC lib nk (.seq (.draw al l) (.ops k)) K S:=DC_fuse al l k K S
@[simp] theorem DC_lab' (E:KEnv) (S:St):DC lib nk .lab E S=some (.normal,E,S):=DC_lab E S
@[simp] theorem DC_bad' (E:KEnv) (S:St):DC lib nk .bad E S=none:=DC_bad E S
@[simp] theorem keep_mk (l:List Nat) (sl:KE) (tips:List (Option Nat)) (nb:Nat):KEnv.keep l ⟨sl,tips,nb⟩=⟨l.map fun t => (t,KE.get sl t),tips,nb⟩:=rfl
@[simp] theorem norm_mk (l:List Nat) (sl:KE) (tips:List (Option Nat)) (nb:Nat):KEnv.norm l ⟨sl,tips,nb⟩=⟨l.foldl (fun s t => (t,am.norm (KE.get s t)) :: s) sl,tips,nb⟩:=rfl
theorem keep_keep (l:List Nat) (K:KEnv):(K.keep l).keep l=K.keep l:=by
  have key:∀ (m:List Nat) (s:KE) (t:Nat),t ∈ m → KE.get (m.map fun t => (t,KE.get s t)) t=KE.get s t:=by
    intro m s t
    induction m with
    | nil => intro h; simp at h
    | cons d m ih =>
      intro h
      simp only [List.map_cons,KE.get]
      split
      · rename_i e; rw [e]
      · rename_i e
        rcases List.mem_cons.1 h with h | h
        · exact absurd h.symm e
        · exact ih h
  simp only [KEnv.keep,KEnv.mk.injEq,and_true]
  refine List.map_congr_left fun t ht => ?_
  simp only [Prod.mk.injEq,true_and]
  exact key l K.sl t ht
theorem DC_loop_keep (l:List Nat) (b:KC) (K:KEnv) (S:St):DC lib nk (.loop (.keep l b)) K S=DC lib nk (.loop (.keep l b)) (K.keep l) S:=by
  rw [DC_loop',DC_loop' _ (K.keep l),DC_keep',DC_keep',keep_keep]
def doneK (f:FuncId) (res:List KR) (S:St):Option (Out × KEnv × St) → Option (AV × St)
  | some (.exit _,_,_) => none
  | some (_,K,S') => match evKR K S' res with
    | none => none
    | some vs => resK f K.tips vs S S'
  | none => none
theorem DF_run {f:FuncId} {k:KF} (h:lib f=some k) {args:List AV} (hl:args.length ≤ k.nt) (S:St):DF lib nk f args S=doneK f k.res S (DC lib nk k.body ⟨argsK 0 args,[],S.length⟩ S):=by
  rw [DF_eq]
  unfold callOfK
  simp only [h]
  rw [if_neg (by omega)]
  unfold doneK
  cases DC lib nk k.body ⟨argsK 0 args,[],S.length⟩ S with
  | none => rfl
  | some x =>
    obtain ⟨o,K,S'⟩:=x
    cases o with
    | exit id => rfl
    | normal => simp only <;> (cases evKR K S' k.res <;> rfl)
    | ret => simp only <;> (cases evKR K S' k.res <;> rfl)
def giveK (f:FuncId) (tips:List (Option Nat)) (S S':St):Option (List AV) → Option (AV × St)
  | none => none
  | some vs => resK f tips vs S S'
@[simp] theorem doneK_ret (f:FuncId) (res:List KR) (S:St) (sl:KE) (tips:List (Option Nat)) (nb:Nat) (S':St):doneK f res S (some (.ret,⟨sl,tips,nb⟩,S'))=giveK f tips S S' (evKR ⟨sl,tips,nb⟩ S' res):=by
  simp only [doneK,giveK]
@[simp] theorem doneK_normal (f:FuncId) (res:List KR) (S:St) (sl:KE) (tips:List (Option Nat)) (nb:Nat) (S':St):doneK f res S (some (.normal,⟨sl,tips,nb⟩,S'))=giveK f tips S S' (evKR ⟨sl,tips,nb⟩ S' res):=by
  simp only [doneK,giveK]
@[simp] theorem doneK_none (f:FuncId) (res:List KR) (S:St):doneK f res S none=none:=rfl
@[simp] theorem giveK_some (f:FuncId) (tips:List (Option Nat)) (S S':St) (vs:List AV):giveK f tips S S' (some vs)=resK f tips vs S S':=rfl
@[simp] theorem giveK_none (f:FuncId) (tips:List (Option Nat)) (S S':St):giveK f tips S S' none=none:=rfl
@[simp] theorem take_at (S:St) (l:List Box):(S ++ l).take S.length=S:=by simp
theorem resK_one (f:FuncId) (tips:List (Option Nat)) (v:AV) (S S':St):resK f tips [v] S S'=if notTup v=true then (if plainRes (giveRes tips (normr v)).1=true then some ((giveRes tips (normr v)).1,S'.take S.length) else resB f (giveRes tips (normr v)).1 S S') else none:=by
  simp [resK,giveResL,retOf]
theorem resK_two (f:FuncId) (tips:List (Option Nat)) (u v:AV) (S S':St):resK f tips [u,v] S S' =
    if notTup u=true ∧ notTup v=true then (if plainRes (.tup [(giveRes tips (normr u)).1,(giveRes (giveRes tips (normr u)).2 (normr v)).1])=true then some (.tup [(giveRes tips (normr u)).1,(giveRes (giveRes tips (normr u)).2 (normr v)).1],S'.take S.length)
      else resB f (.tup [(giveRes tips (normr u)).1,(giveRes (giveRes tips (normr u)).2 (normr v)).1]) S S') else none:=by
  simp [resK,giveResL,retOf]
@[simp] theorem evKR_nil (K:KEnv) (S:St):evKR K S []=some []:=rfl
@[simp] theorem evKR_tmp (K:KEnv) (S:St) (t:Nat) (r:List KR):evKR K S (.tmp t :: r)=(evKR K S r).map fun l => KE.get K.sl t :: l:=rfl
@[simp] theorem evKR_cell (K:KEnv) (S:St) (a:Nat) (sh:Sh) (r:List KR):evKR K S (.cell a sh :: r)=match loadK S sh (KE.get K.sl a),evKR K S r with
    | some v,some l => some (v :: l)
    | _,_ => none:=rfl
@[simp] theorem argsK_nil (n:Nat):argsK n []=[]:=rfl
@[simp] theorem argsK_cons (n:Nat) (v:AV) (r:List AV):argsK n (v :: r)=(n,v) :: argsK (n + 1) r:=rfl
@[simp] theorem get_at (S:St) (l:List Box) (k:Nat):(S ++ l)[S.length + k]?=l[k]?:=by rw [List.getElem?_append_right (Nat.le_add_right _ _),Nat.add_sub_cancel_left]
@[simp] theorem get_at0 (S:St) (l:List Box):(S ++ l)[S.length]?=l[0]?:=get_at S l 0
@[simp] theorem set_at (S:St) (l:List Box) (k:Nat) (b:Box):(S ++ l).set (S.length + k) b=S ++ l.set k b:=by
  rw [List.set_append_right _ _ (Nat.le_add_right _ _),Nat.add_sub_cancel_left]
@[simp] theorem set_at0 (S:St) (l:List Box) (b:Box):(S ++ l).set S.length b=S ++ l.set 0 b:=set_at S l 0 b
@[simp] theorem deref_ptr (S:St) (i off:Nat):deref S (.ptr i off)=match S[i]? with
    | some (.mem cs _ _) => some (cs,off)
    | _ => none:=rfl
@[simp] theorem deref_rptr (S:St) (r:Right) (cs:List AV) (off:Nat):deref S (.rptr r cs off)=some (cs,off):=rfl
@[simp] theorem fadK_ptr (off i o:Nat):fadK off (.ptr i o)=some (.ptr i (o + off)):=rfl
@[simp] theorem fadK_rptr (off:Nat) (r:Right) (cs:List AV) (o:Nat):fadK off (.rptr r cs o)=some (.rptr r cs (o + off)):=rfl
theorem loadK_ptr {S:St} {i:Nat} {cs:List AV} {tips:List (Option Nat)} {l:Bool} (h:S[i]?=some (.mem cs tips l)) (sh:Sh) (off:Nat):loadK S sh (.ptr i off)=partK sh cs off:=by
  simp only [loadK,deref,h]
@[simp] theorem loadK_at (S:St) (sh:Sh) (l:List Box) (k off:Nat):loadK (S ++ l) sh (.ptr (S.length + k) off)=match l[k]? with
    | some (.mem cs _ _) => partK sh cs off
    | _ => none:=by
  simp only [loadK,deref,get_at]
  cases l[k]? with
  | none => rfl
  | some b => cases b <;> rfl
@[simp] theorem loadK_at0 (S:St) (sh:Sh) (l:List Box) (off:Nat):loadK (S ++ l) sh (.ptr S.length off)=match l[0]? with
    | some (Box.mem cs _ _) => partK sh cs off
    | _ => none:=loadK_at S sh l 0 off
@[simp] theorem loadK_rptr (S:St) (sh:Sh) (r:Right) (cs:List AV) (off:Nat):loadK S sh (.rptr r cs off)=partK sh cs off:=rfl
@[simp] theorem partK_cell (l:List AV) (off:Nat):partK .cell l off=l[off]?:=rfl
end
end Go.Proofs.YtekgdmhdkhgpjaaGreatDoor.am
namespace Go.Proofs.YtekgdmhdkhgpjaaGreatDoor.am
open Go
def AllOK (P:Program):Nat → List (Option KF) → Prop
  | _,[] => True
  | n,none :: r => True ∧ AllOK P (n + 1) r
  | n,some k :: r => (∃ fn,P.funcs[n]?=some fn ∧ KOK P fn k) ∧ AllOK P (n + 1) r
theorem allOK_at {P:Program}:∀ {l:List (Option KF)} {n i:Nat} {k:KF},AllOK P n l → l[i]?=some (some k) → ∃ fn,P.funcs[n + i]?=some fn ∧ KOK P fn k:=by
  intro l
  induction l with
  | nil => intro n i k _ h; simp at h
  | cons x l ih =>
    intro n i k h e
    cases i with
    | zero =>
      simp at e
      subst e
      exact h.1
    | succ i =>
      have h2:AllOK P (n + 1) l:=by cases x <;> exact h.2
      have:=ih h2 (by simpa using e)
      rwa [Nat.add_assoc,Nat.add_comm 1 i] at this
theorem allOK_get {P:Program} {l:List (Option KF)} {i:Nat} {k:KF} (h:AllOK P 0 l) (e:(l[i]?).join=some k):∃ fn,P.funcs[i]?=some fn ∧ KOK P fn k:=by
  have:=allOK_at (i:=i) h (k:=k) (by
    cases hx:l[i]? with
    | none => simp [hx] at e
    | some y => simp [hx] at e; rw [e])
  simpa using this
end Go.Proofs.YtekgdmhdkhgpjaaGreatDoor.am
