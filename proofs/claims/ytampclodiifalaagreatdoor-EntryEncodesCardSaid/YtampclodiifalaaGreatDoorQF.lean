/- Parts. No condition. -/
import Derived.Carry
import Derived.ChangeSame
import Derived.Test.YtampclodiifalaaGreatDoorProg
import Derived.KernelRfl
import Derived.Lib.DecodeN
import Derived.Maps.AppendAt
import Derived.Test.YtampclodiifalaaGreatDoorRows
import Derived.LaidLaws
import Derived.LaidHandle
import Derived.Lib.LaidTab
import Derived.Handed
import Derived.ChangeVars
import Derived.JoinedOf
import Derived.Stop.Joined
import Derived.ProofKit
import Derived.Test.YtampclodiifalaaGreatDoorQE
set_option linter.all false
namespace Go.Proofs.YtampclodiifalaaGreatDoor.am
open Go Go.RowKit
section
section
variable{ax:FuncId->Option KF}{nk:NK}{call:bU}
def aeP(call:bU)(r:List KO):Option (AV × bw × St)->Option (bw × St)
 |some (_,K,S)=>qV call r K S
 |none=>none
def aaW(call:bU)(r:List KD)(ss:List St)(ls:List LM)(d:KD)(K0:bw):Option (AV × bw × St)->Option (bw × St × List St × List LM)
 |some (v,K,S)=>z4 call r K S (if d.eff then ss++[S]else ss) (ldK K0 d v ls)
 |none=>none
def aib(K:bw)(d:Option Nat):Option (AV × List (Option Nat) × St)->Option (AV × bw × St)
 |some (v,aa,S)=>some (v,K.put d v aa,S)
 |none=>none
def goK(call:bU)(K:bw)(S:St)(d:Option Nat)(op:JZ):Option Bool->Option (AV × bw × St)
 |some true=>aib K d (mf call K S op)
 |some false=>some (.undef,K.put d (.cT []) K.aa,S)
 |none=>none
def gdV(want:Bool):AV->Option Bool
 |.bool b=>some (b==want)
 |.cT []=>some false
 |_=>none
def alo(x:Option (bw × St × List St × List LM)):Option (bw × St):=
 match x with
 |some (K,S,ss,ls)=>if Tc ss ls then some (K,S)else none
 |none=>none
def ldV(d:Nat)(h:Nat)(K0:bw)(v:AV)(ls:List LM)(op:JZ):Option Bool->List LM
 |some true=>match op with
  |.load sh p=>⟨d,h,sh,KE.ev K0.sl p,v⟩::ls
  |_=>ls
 |_=>ls
@[simp]theorem asG(K:bw)(S:St):qV call [] K S=some (K,S):=rfl
@[simp]theorem aqM(o:KO)(r:List KO)(K:bw)(S:St):qV call (o::r) K S=aeP call r (MS call K S o):=by simp only[qV,aeP];split<;>simp_all
@[simp]theorem aoC(r:List KO)(v:AV)(K:bw)(S:St):aeP call r (some (v,K,S))=qV call r K S:=rfl
@[simp]theorem aoD(r:List KO):aeP call r none=none:=rfl
@[simp]theorem aqN(K:bw)(S:St)(ss:List St)(ls:List LM):z4 call [] K S ss ls=some (K,S,ss,ls):=rfl
@[simp]theorem aoE(d:KD)(r:List KD)(K:bw)(S:St)(ss:List St)(ls:List LM):z4 call (d::r) K S ss ls=aaW call r ss ls d K (MS call K S d.o):=by simp only[z4,aaW];split<;>simp_all
@[simp]theorem aoF(r:List KD)(ss:List St)(ls:List LM)(o:KO)(e:Bool)(lo hi:Nat)(K0:bw)(v:AV)(K:bw)(S:St):
 aaW call r ss ls ⟨o,e,lo,hi⟩ K0 (some (v,K,S))=z4 call r K S (if e then ss++[S]else ss) (ldV lo hi K0 v ls o.op (gdK K0 o.gd)):=by
 simp only[aaW,ldK,ldV];congr 1;cases gdK K0 o.gd with
 |none=>rfl
 |some b=>cases b<;>cases o.op<;>rfl
@[simp]theorem aoG(r:List KD)(ss:List St)(ls:List LM)(d:KD)(K0:bw):aaW call r ss ls d K0 none=none:=rfl
@[simp]theorem ayH(lo hi:Nat)(K0:bw)(v:AV)(ls:List LM)(k:KP)(g:Option Bool):ldV lo hi K0 v ls (.p k) g=ls:=by cases g with|none=>rfl|some b=>cases b<;>rfl
@[simp]theorem asH(lo hi:Nat)(K0:bw)(v:AV)(ls:List LM)(f:KV)(a:List KV)(g:Option Bool):ldV lo hi K0 v ls (.call f a) g=ls:=by cases g with|none=>rfl|some b=>cases b<;>rfl
@[simp]theorem auY(lo hi:Nat)(K0:bw)(v:AV)(ls:List LM)(n:Nat)(f a:KV)(g:Option Bool):ldV lo hi K0 v ls (.app n f a) g=ls:=by cases g with|none=>rfl|some b=>cases b<;>rfl
@[simp]theorem aqO(lo hi:Nat)(K0:bw)(v:AV)(ls:List LM)(n:Nat)(f a:KV)(g:Option Bool):ldV lo hi K0 v ls (.store n f a) g=ls:=by cases g with|none=>rfl|some b=>cases b<;>rfl
@[simp]theorem auZ(lo hi:Nat)(K0:bw)(v:AV)(ls:List LM)(n:Nat)(f a:KV)(g:Option Bool):ldV lo hi K0 v ls (.cpy n f a) g=ls:=by cases g with|none=>rfl|some b=>cases b<;>rfl
@[simp]theorem au0(lo hi:Nat)(K0:bw)(v:AV)(ls:List LM)(a:KV)(g:Option Bool):ldV lo hi K0 v ls (.byt a) g=ls:=by cases g with|none=>rfl|some b=>cases b<;>rfl
@[simp]theorem au1(lo hi:Nat)(K0:bw)(v:AV)(ls:List LM)(a:Nat)(z:List AV)(n:Nat)(ps:List (Nat × KV))(g:Option Bool):ldV lo hi K0 v ls (.bsl a z n ps) g=ls:=by cases g with|none=>rfl|some b=>cases b<;>rfl
@[simp]theorem asI(lo hi:Nat)(K0:bw)(v:AV)(ls:List LM)(sh:Sh)(p:KV):ldV lo hi K0 v ls (.load sh p) (some true)=⟨lo,hi,sh,KE.ev K0.sl p,v⟩::ls:=rfl
@[simp]theorem aqP(lo hi:Nat)(K0:bw)(v:AV)(ls:List LM)(op:JZ):ldV lo hi K0 v ls op (some false)=ls:=rfl
@[simp]theorem au2(K:bw)(S:St)(d:Option Nat)(g:Option (Nat × Bool))(op:JZ):MS call K S ⟨d,g,op⟩=goK call K S d op (gdK K g):=by
 simp only[MS,goK];cases gdK K g with
 |none=>rfl
 |some b=>
  cases b with
  |false=>rfl
  |true=>
   simp only[aib];cases mf call K S op<;>rfl
@[simp]theorem asJ(K:bw)(S:St)(d:Option Nat)(op:JZ):goK call K S d op (some true)=aib K d (mf call K S op):=rfl
@[simp]theorem aqQ(K:bw)(S:St)(d:Option Nat)(op:JZ):goK call K S d op (some false)=some (.undef,K.put d (.cT []) K.aa,S):=rfl
@[simp]theorem aqR(K:bw)(d:Option Nat)(v:AV)(aa:List (Option Nat))(S:St):aib K d (some (v,aa,S))=some (v,K.put d v aa,S):=rfl
@[simp]theorem aqS(K:bw)(d:Option Nat):aib K d none=none:=rfl
@[simp]theorem asK(K:bw):gdK K none=some true:=rfl
@[simp]theorem asL(K:bw)(t:Nat)(want:Bool):gdK K (some (t,want))=gdV want (KE.get K.sl t):=by simp only[gdK,gdV];split<;>simp_all
@[simp]theorem asM(b:Bool):gdV true (.bool b)=some b:=by cases b<;>rfl
@[simp]theorem aqT(b:Bool):gdV false (.bool b)=some (!b):=by cases b<;>rfl
@[simp]theorem au3(w:Bool):gdV w (.cT [])=some false:=rfl
@[simp]theorem asN(sl:KE)(aa:List (Option Nat))(nb:Nat)(d:Nat)(v:AV)(aG:List (Option Nat)):bw.put ⟨sl,aa,nb⟩ (some d) v aG=⟨(d,v)::sl,aG,nb⟩:=rfl
@[simp]theorem asO(sl:KE)(aa:List (Option Nat))(nb:Nat)(v:AV)(aG:List (Option Nat)):bw.put ⟨sl,aa,nb⟩ none v aG=⟨sl,aG,nb⟩:=rfl
@[simp]theorem akn(t:Nat):KE.get [] t=.undef:=rfl
@[simp]theorem asQ(d:Nat)(v:AV)(r:KE)(t:Nat):KE.get ((d,v)::r) t=if d=t then v else KE.get r t:=rfl
@[simp]theorem az6(E:KE)(n:Nat):KE.ev E (.t n)=KE.get E n:=rfl
@[simp]theorem az7(E:KE)(v:AV):KE.ev E (.c v)=v:=rfl
@[simp]theorem au4(al:List (Nat × List AV))(l:List KD)(K:bw)(S:St):MT call al l K S=alo (z4 call l (zZ al K S).1 (zZ al K S).2 [(zZ al K S).2] []):=by unfold MT alo;split<;>simp_all
@[simp]theorem aqU(K:bw)(S:St)(ss:List St)(ls:List LM):alo (some (K,S,ss,ls))=if Tc ss ls then some (K,S)else none:=rfl
@[simp]theorem aqV:alo none=none:=rfl
@[simp]theorem aqW(K:bw)(S:St):zZ [] K S=(K,S):=rfl
@[simp]theorem aoH(d:Nat)(z:List AV)(r:List (Nat × List AV))(K:bw)(S:St):zZ ((d,z)::r) K S=zZ r (K.put (some d) (.ptr S.length 0) K.aa) (S++[.mem z [] false]):=rfl
@[simp]theorem aqX(ss:List St):Tc ss []=true:=rfl
def am1(l:LM)(S:St):Bool:=match aY S l.sh l.at_ with
 |some v=>nA v l.val
 |none=>false
@[simp]theorem aoI(ss:List St)(l:LM)(ls:List LM):Tc ss (l::ls)=(((ss.take (l.hi+1)).drop l.lo).all (am1 l)&&Tc ss ls):=rfl
mutual
theorem OJ:∀a:AV,nA a a=true
 |.undef=>rfl
 |.bool b=>by simp[nA]
 |.int k n=>by simp[nA]
 |.str s=>by simp[nA]
 |.kF=>rfl
 |.ptr i o=>by simp[nA]
 |.ec r cs o=>by simp[nA,pB cs]
 |.ah=>rfl
 |.sl r sz es=>by simp[nA,Qc es]
 |.aref i o l c z=>by simp[nA]
 |.fn f a b=>by simp[nA,pB a,pB b]
 |.ly=>rfl
 |.iL t v=>by simp[nA,OJ v]
 |.bP=>rfl
 |.agg cs=>by simp[nA,pB cs]
 |.iC cs=>by simp[nA,pB cs]
 |.cT cs=>by simp[nA,pB cs]
theorem pB:∀l:List AV,Cq l l=true
 |[]=>rfl
 |a::r=>by simp[Cq,OJ a,pB r]
theorem Qc:∀l:List (List AV),Lz l l=true
 |[]=>rfl
 |a::r=>by simp[Lz,pB a,Qc r]
end
@[simp]theorem asR(lo hi:Nat)(sh:Sh)(p v:AV)(S:St):am1 ⟨lo,hi,sh,p,v⟩ S=(match aY S sh p with|some v'=>nA v' v|none=>false):=rfl
@[simp]theorem aqY(a:AV):nA a a=true:=OJ a
def W2(aa:List (Option Nat))(S:St):Option AV->Option (AV × List (Option Nat) × St)
 |some v=>some (v,aa,S)
 |none=>none
def aoJ:Option (List (Option Nat) × St)->Option (AV × List (Option Nat) × St)
 |some r=>some (.undef,r.1,r.2)
 |none=>none
def aic(aa:List (Option Nat)):Option (AV × St)->Option (AV × List (Option Nat) × St)
 |some r=>some (r.1,aa,r.2)
 |none=>none
@[simp]theorem aoK(aa:List (Option Nat))(S:St)(v:AV):W2 aa S (some v)=some (v,aa,S):=rfl
@[simp]theorem aoL(aa:List (Option Nat))(S:St):W2 aa S none=none:=rfl
@[simp]theorem aqZ(aa:List (Option Nat))(S:St):aoJ (some (aa,S))=some (.undef,aa,S):=rfl
@[simp]theorem aq0:aoJ none=none:=rfl
@[simp]theorem aq1(aa:List (Option Nat))(v:AV)(S:St):aic aa (some (v,S))=some (v,aa,S):=rfl
@[simp]theorem aq2(aa:List (Option Nat)):aic aa none=none:=rfl
@[simp]theorem awF(sl:KE)(aa:List (Option Nat))(nb:Nat)(S:St)(k:KP):mf call ⟨sl,aa,nb⟩ S (.p k)=W2 aa S (ow (KE.ev sl) k):=by simp only[mf];cases ow (KE.ev sl) k<;>rfl
@[simp]theorem aoM(K:bw)(S:St)(z:List AV):mf call K S (.alloc z)=some (.ptr S.length 0,K.aa,S++[.mem z [] false]):=rfl
@[simp]theorem asS(sl:KE)(aa:List (Option Nat))(nb:Nat)(S:St)(n:Nat)(x:KV):mf call ⟨sl,aa,nb⟩ S (.box n x)=zQ n aa S (KE.ev sl x):=rfl
def OK(n:Nat)(aa:List (Option Nat))(S:St)(v:AV):Option (AV × List (Option Nat) × St):=
 if aaq v=true/\v.cells.length=n then some (.ptr S.length 0,aa,S++[.mem ((aB v).cells) [] false])else none
theorem aid(n:Nat)(aa:List (Option Nat))(S:St){v:AV}(h:aaq v=true):zQ n aa S v=OK n aa S v:=by cases v<;>first|rfl|simp[aaq]at h
section
variable(n:Nat)(aa:List (Option Nat))(S:St)
@[simp]theorem asT(cs:List AV):zQ n aa S (.agg cs)=OK n aa S (.agg cs):=rfl
@[simp]theorem asU(k:IntKind)(i:Int):zQ n aa S (.int k i)=OK n aa S (.int k i):=rfl
@[simp]theorem aq3(b:Bool):zQ n aa S (.bool b)=OK n aa S (.bool b):=rfl
@[simp]theorem asW(s:List UInt8):zQ n aa S (.str s)=OK n aa S (.str s):=rfl
@[simp]theorem aq4:zQ n aa S .kF=OK n aa S .kF:=rfl
@[simp]theorem asX(i o:Nat):zQ n aa S (.ptr i o)=OK n aa S (.ptr i o):=rfl
@[simp]theorem aq5:zQ n aa S .ah=OK n aa S .ah:=rfl
@[simp]theorem au5(r:jQ)(z:Nat)(es:List (List AV)):zQ n aa S (.sl r z es)=OK n aa S (.sl r z es):=rfl
@[simp]theorem asY(t:TypeId)(v:AV):zQ n aa S (.iL t v)=OK n aa S (.iL t v):=rfl
@[simp]theorem aq6:zQ n aa S .bP=OK n aa S .bP:=rfl
end
attribute [simp] OK
@[simp]theorem aq7(sl:KE)(aa:List (Option Nat))(nb:Nat)(S:St)(sh:Sh)(p:KV):mf call ⟨sl,aa,nb⟩ S (.load sh p)=W2 aa S (aY S sh (KE.ev sl p)):=by simp only[mf];cases aY S sh (KE.ev sl p)<;>rfl
@[simp]theorem aoN(sl:KE)(aa:List (Option Nat))(nb:Nat)(S:St)(n:Nat)(p x:KV):mf call ⟨sl,aa,nb⟩ S (.store n p x)=aoJ (bg aa nb S n (KE.ev sl p) (KE.ev sl x)):=by simp only[mf];cases bg aa nb S n (KE.ev sl p) (KE.ev sl x)<;>rfl
@[simp]theorem asZ(sl:KE)(aa:List (Option Nat))(nb:Nat)(S:St)(sz:Nat)(s x:KV):mf call ⟨sl,aa,nb⟩ S (.app sz s x)=cb sz aa S (KE.ev sl s) (KE.ev sl x):=rfl
@[simp]theorem as0(sl:KE)(aa:List (Option Nat))(nb:Nat)(S:St)(sz:Nat)(d x:KV):mf call ⟨sl,aa,nb⟩ S (.cpy sz d x)=aic aa (CF nb S sz (KE.ev sl d) (KE.ev sl x)):=by simp only[mf];cases CF nb S sz (KE.ev sl d) (KE.ev sl x)<;>rfl
@[simp]theorem as1(sl:KE)(aa:List (Option Nat))(nb:Nat)(S:St)(sz:Nat)(z:List AV)(len:Nat)(ps:List (Nat × KV)):
 mf call ⟨sl,aa,nb⟩ S (.bsl sz z len ps)=W2 aa S ((e_ sz (List.replicate len z) (ps.map fun x=>(x.1,KE.ev sl x.2))).map fun es=>.sl .exact sz es):=by
 simp only[mf];cases e_ sz (List.replicate len z) (ps.map fun x=>(x.1,KE.ev sl x.2))<;>rfl
def as2(aa:List (Option Nat)):Option St->Option (AV × List (Option Nat) × St)
 |some S=>some (.cT [],aa,S)
 |none=>none
@[simp]theorem aq8(aa:List (Option Nat))(S:St):as2 aa (some S)=some (.cT [],aa,S):=rfl
@[simp]theorem aq9(aa:List (Option Nat)):as2 aa none=none:=rfl
@[simp]theorem as3(sl:KE)(aa:List (Option Nat))(nb:Nat)(S:St)(x:KV):mf call ⟨sl,aa,nb⟩ S (.rng x)=aic aa (OF S (KE.ev sl x)):=by simp only[mf];cases OF S (KE.ev sl x)<;>rfl
@[simp]theorem as4(sl:KE)(aa:List (Option Nat))(nb:Nat)(S:St)(x:KV):mf call ⟨sl,aa,nb⟩ S (.nxt x)=aic aa (zR S (KE.ev sl x)):=by simp only[mf];cases zR S (KE.ev sl x)<;>rfl
@[simp]theorem as5(sl:KE)(aa:List (Option Nat))(nb:Nat)(S:St):mf call ⟨sl,aa,nb⟩ S .bad=none:=rfl
@[simp]theorem as6(sl:KE)(aa:List (Option Nat))(nb:Nat)(S:St)(x:KV):mf call ⟨sl,aa,nb⟩ S (.byt x)=W2 aa S (aaB (KE.ev sl x)):=by simp only[mf];cases aaB (KE.ev sl x)<;>rfl
def aaX(aa:List (Option Nat))(S:St)(args:List AV):Option (AV × St)->Option (AV × List (Option Nat) × St)
 |some (r,S')=>some ((aT aa r).1,(aT aa r).2,dj S S' args)
 |none=>none
def BM(S:St):List AV->Option (List AV)
 |[]=>some []
 |a::r=>match bN S a,BM S r with
  |some a,some r=>some (a::r)
  |_,_=>none
def W3(call:bU)(aa:List (Option Nat))(S:St)(f:FuncId)(args:List AV):Option (List AV)->Option (AV × List (Option Nat) × St)
 |some mN=>aaX aa S args (call f mN (dW S args))
 |none=>none
theorem W4(S:St):∀l:List AV,l.mapM (bN S)=BM S l
 |[]=>rfl
 |a::r=>by
  rw[Hc,W4 S r];simp only[BM];cases bN S a with
  |none=>rfl
  |some a=>cases BM S r<;>rfl
@[simp]theorem aq_(sl:KE)(aa:List (Option Nat))(nb:Nat)(S:St)(f:KV)(args:List KV):mf call ⟨sl,aa,nb⟩ S (.call f args)=Fp call aa S (KE.ev sl f) (args.map (KE.ev sl)):=rfl
def BN:List AV->Option (List AV)
 |[]=>some []
 |a::r=>match BH a,BN r with
  |some a,some r=>some (a::r)
  |_,_=>none
theorem W5:∀l:List AV,l.mapM BH=BN l
 |[]=>rfl
 |a::r=>by
  rw[Hc,W5 r];simp only[BN];cases BH a with
  |none=>rfl
  |some a=>cases BN r<;>rfl
def aaY(aa:List (Option Nat)):Option (AV × St)->Option (AV × List (Option Nat) × St)
 |some (r,S')=>some ((aT aa r).1,(aT aa r).2,S')
 |none=>none
def W6(call:bU)(aa:List (Option Nat))(S:St)(f:FuncId):Option (List AV)->Option (AV × List (Option Nat) × St)
 |some mN=>aaY aa (call f mN S)
 |none=>none
def aaZ(call:bU)(aa:List (Option Nat))(S:St)(f:FuncId)(args:List AV):Bool->Option (AV × List (Option Nat) × St)
 |true=>W6 call aa S f (BN args)
 |false=>W3 call aa S f args (BM S args)
@[simp]theorem aoO(aa:List (Option Nat))(S:St)(f:FuncId)(args:List AV):aaZ call aa S f args true=W6 call aa S f (BN args):=rfl
@[simp]theorem am2(aa:List (Option Nat))(S:St)(f:FuncId)(args:List AV):aaZ call aa S f args false=W3 call aa S f args (BM S args):=rfl
@[simp]theorem as7(aa:List (Option Nat))(S:St)(g:FuncId)(a b args:List AV):Fp call aa S (.fn g a b) args=aaZ call aa S g (a++(args++b)) (u9 g):=by
 simp only[Fp,RN,fB];rw[W4,W5];cases u9 g with
 |true=>
  simp only[if_true,aaZ,W6];cases BN (a++(args++b))with
  |none=>rfl
  |some mN=>
   simp only[aaY];cases call g mN S<;>rfl
 |false=>
  simp only[rL,if_false,aaZ,W3,aaX];cases BM S (a++(args++b))with
  |none=>rfl
  |some mN=>
   simp only;cases call g mN (dW S (a++(args++b)))<;>rfl
def W7(nk:NK)(call:bU)(S:St)(f:FuncId)(args:List AV):Option (List AV->St->Option (AV × St))->Option (AV × St)
 |some p=>p args S
 |none=>call f (args.map (if nk.aN f=true then yr else norm)) S
@[simp]theorem aoP(S:St)(f:FuncId)(args:List AV)(p:List AV->St->Option (AV × St)):W7 nk call S f args (some p)=p args S:=rfl
@[simp]theorem aoQ(S:St)(f:FuncId)(args:List AV):W7 nk call S f args none=call f (args.map (if nk.aN f=true then yr else norm)) S:=rfl
@[simp]theorem aoR(aa:List (Option Nat))(S:St)(f:FuncId)(args mN:List AV):W3 (lK nk call) aa S f args (some mN)=aaX aa S args (W7 nk call (dW S args) f mN (nk.rP f)):=by simp only[W3,lK,W7];cases nk.rP f<;>rfl
@[simp]theorem aoS(aa:List (Option Nat))(S:St)(f:FuncId)(mN:List AV):W6 (lK nk call) aa S f (some mN)=aaY aa (W7 nk call S f mN (nk.rP f)):=by simp only[W6,lK,W7];cases nk.rP f<;>rfl
@[simp]theorem aoT(aa:List (Option Nat))(S:St)(f:FuncId):W6 call aa S f none=none:=rfl
@[simp]theorem aoU(aa:List (Option Nat))(r:AV)(S':St):aaY aa (some (r,S'))=some ((aT aa r).1,(aT aa r).2,S'):=rfl
@[simp]theorem aoV(aa:List (Option Nat)):aaY aa none=none:=rfl
@[simp]theorem aoW:BN []=some []:=rfl
@[simp]theorem am3(a:AV)(r:List AV):BN (a::r)=match BH a,BN r with
 |some a,some r=>some (a::r)
 |_,_=>none:=rfl
@[simp]theorem aoX(aa:List (Option Nat))(S:St)(f:FuncId)(args:List AV):W3 call aa S f args none=none:=rfl
@[simp]theorem aoY(aa:List (Option Nat))(S:St)(args:List AV)(r:AV)(S':St):aaX aa S args (some (r,S'))=some ((aT aa r).1,(aT aa r).2,dj S S' args):=rfl
@[simp]theorem aoZ(aa:List (Option Nat))(S:St)(args:List AV):aaX aa S args none=none:=rfl
@[simp]theorem ao0(S:St):BM S []=some []:=rfl
@[simp]theorem am4(S:St)(a:AV)(r:List AV):BM S (a::r)=match bN S a,BM S r with
 |some a,some r=>some (a::r)
 |_,_=>none:=rfl
@[simp]theorem au6(l:List KO)(E:bw)(S:St):DC ax nk (.ops l) E S=CH (qV (lK nk (DF ax nk)) l E S):=aow l E S
@[simp]theorem as8(al:List (Nat × List AV))(l:List KD)(E:bw)(S:St):DC ax nk (.draw al l) E S=CH (MT (lK nk (DF ax nk)) al l E S):=alb al l E S
noncomputable def CI(ax:FuncId->Option KF)(nk:NK)(b:KC)(x:Option (Out × bw × St)):Option (Out × bw × St):=Qa x fun E S=>DC ax nk b E S
@[simp]theorem au7(a b:KC)(E:bw)(S:St):DC ax nk (.seq a b) E S=CI ax nk b (DC ax nk a E S):=aox a b E S
@[simp]theorem am5(b:KC)(E:bw)(S:St):CI ax nk b (some (.normal,E,S))=DC ax nk b E S:=rfl
@[simp]theorem as9(b:KC)(E:bw)(S:St):CI ax nk b (some (.ret,E,S))=some (.ret,E,S):=rfl
@[simp]theorem ara(id:Nat)(b:KC)(E:bw)(S:St):CI ax nk b (some (.exit id,E,S))=some (.exit id,E,S):=rfl
@[simp]theorem arb(b:KC):CI ax nk b none=none:=rfl
theorem aj(b:KC)(E:bw)(S:St):DC ax nk (.loop b) E S=CI ax nk (.loop b) (DC ax nk b E S):=alc b E S
@[simp]theorem as_(x:KV)(a b:KC)(E:bw)(S:St):DC ax nk (.cond x a b) E S=aeK (KE.ev E.sl x) (DC ax nk a E S) (DC ax nk b E S):=ald x a b E S
@[simp]theorem arc(id:Nat)(b:KC)(E:bw)(S:St):DC ax nk (.block id b) E S=LO id (DC ax nk b E S):=ah9 id b E S
@[simp]theorem ata(E:bw)(S:St):DC ax nk .skip E S=some (.normal,E,S):=ak_ E S
@[simp]theorem au8(E:bw)(S:St):DC ax nk .ret E S=some (.ret,E,S):=aov E S
@[simp]theorem atb(id:Nat)(E:bw)(S:St):DC ax nk (.exit id) E S=some (.exit id,E,S):=ala id E S
@[simp]theorem aa0(l:List Nat)(k:KC)(K:bw)(S:St):DC ax nk (.aN l k) K S=DC ax nk k (K.aN l) S:=ale l k K S
@[simp]theorem atc(al:List (Nat × List AV))(l:List KD)(k:List KO)(K:bw)(S:St):DC ax nk (.VA al l k) K S=DC ax nk (.seq (.draw al l) (.ops k)) K S:=alf al l k K S
@[simp]theorem au9(l:List Nat)(sl:KE)(aa:List (Option Nat))(nb:Nat):bw.aN l ⟨sl,aa,nb⟩=⟨l.map fun t=>(t,KE.get sl t),aa,nb⟩:=rfl
@[simp]theorem au_(l:List Nat)(sl:KE)(aa:List (Option Nat))(nb:Nat):bw.norm l ⟨sl,aa,nb⟩=⟨l.foldl (fun s t=>(t,am.norm (KE.get s t))::s) sl,aa,nb⟩:=rfl
theorem age(l:List Nat)(K:bw):(K.aN l).aN l=K.aN l:=by
 have key:∀(m:List Nat)(s:KE)(t:Nat),t∈m->KE.get (m.map fun t=>(t,KE.get s t)) t=KE.get s t:=by
  intro m s t;induction m with
  |nil=>intro h;simp at h
  |cons d m ih=>
   intro h;simp only[pz,KE.get];split;·rename_i e;rw[e]
   ·rename_i e
    rcases yi.1 h with h|h;·exact absurd h.symm e
    ·exact ih h
 simp only[bw.aN,bw.mk.injEq,and_true];refine SO fun t ht=>?_;simp only[g_,true_and];exact key l K.sl t ht
theorem Ys(l:List Nat)(b:KC)(K:bw)(S:St):DC ax nk (.loop (.aN l b)) K S=DC ax nk (.loop (.aN l b)) (K.aN l) S:=by rw[aj,aj _ (K.aN l),aa0,aa0,age]
def yz(f:FuncId)(res:List KR)(S:St):Option (Out × bw × St)->Option (AV × St)
 |some (.exit _,_,_)=>none
 |some (_,K,S')=>match FQ K S' res with
  |none=>none
  |some vs=>cC f K.aa vs S S'
 |none=>none
theorem va{f:FuncId}{k:KF}(h:ax f=some k){args:List AV}(hl:args.length<=k.nt)(S:St):DF ax nk f args S=yz f k.res S (DC ax nk k.body ⟨tH 0 args,[],S.length⟩ S):=by
 rw[asz];unfold Bi;simp only[h];rw[if_neg (by omega)];unfold yz;cases DC ax nk k.body ⟨tH 0 args,[],S.length⟩ S with
 |none=>rfl
 |some x=>
  obtain⟨o,K,S'⟩:=x;cases o with
  |exit id=>rfl
  |normal=>simp only<;>(cases FQ K S' k.res<;>rfl)
  |ret=>simp only<;>(cases FQ K S' k.res<;>rfl)
def W8(f:FuncId)(aa:List (Option Nat))(S S':St):Option (List AV)->Option (AV × St)
 |none=>none
 |some vs=>cC f aa vs S S'
@[simp]theorem ard(f:FuncId)(res:List KR)(S:St)(sl:KE)(aa:List (Option Nat))(nb:Nat)(S':St):yz f res S (some (.ret,⟨sl,aa,nb⟩,S'))=W8 f aa S S' (FQ ⟨sl,aa,nb⟩ S' res):=by simp only[yz,W8]
@[simp]theorem alp(f:FuncId)(res:List KR)(S:St)(sl:KE)(aa:List (Option Nat))(nb:Nat)(S':St):yz f res S (some (.normal,⟨sl,aa,nb⟩,S'))=W8 f aa S S' (FQ ⟨sl,aa,nb⟩ S' res):=by simp only[yz,W8]
@[simp]theorem ao1(f:FuncId)(res:List KR)(S:St):yz f res S none=none:=rfl
@[simp]theorem ao2(f:FuncId)(aa:List (Option Nat))(S S':St)(vs:List AV):W8 f aa S S' (some vs)=cC f aa vs S S':=rfl
@[simp]theorem ao3(f:FuncId)(aa:List (Option Nat))(S S':St):W8 f aa S S' none=none:=rfl
theorem lL(f:FuncId)(aa:List (Option Nat))(v:AV)(S S':St):cC f aa [v] S S'=if bu v=true then(if aw (a9 aa (bD v)).1=true then some ((a9 aa (bD v)).1,S'.take S.length)else aaC f (a9 aa (bD v)).1 S S')else none:=by simp[cC,ay,bA]
theorem z5(f:FuncId)(aa:List (Option Nat))(u v:AV)(S S':St):cC f aa [u,v] S S'=
 if bu u=true/\bu v=true then(if aw (.cT [(a9 aa (bD u)).1,(a9 (a9 aa (bD u)).2 (bD v)).1])=true then some (.cT [(a9 aa (bD u)).1,(a9 (a9 aa (bD u)).2 (bD v)).1],S'.take S.length)
  else aaC f (.cT [(a9 aa (bD u)).1,(a9 (a9 aa (bD u)).2 (bD v)).1]) S S')else none:=by
 simp[cC,ay,bA]
@[simp]theorem atd(K:bw)(S:St):FQ K S []=some []:=rfl
@[simp]theorem ate(K:bw)(S:St)(t:Nat)(r:List KR):FQ K S (.tmp t::r)=(FQ K S r).map fun l=>KE.get K.sl t::l:=rfl
@[simp]theorem are(K:bw)(S:St)(a:Nat)(sh:Sh)(r:List KR):FQ K S (.cell a sh::r)=match aY S sh (KE.get K.sl a),FQ K S r with
 |some v,some l=>some (v::l)
 |_,_=>none:=rfl
@[simp]theorem JK(n:Nat):tH n []=[]:=rfl
@[simp]theorem DY(n:Nat)(v:AV)(r:List AV):tH n (v::r)=(n,v)::tH (n+1) r:=rfl
@[simp]theorem get_at(S:St)(l:List cF)(k:Nat):(S++l)[S.length+k]? =l[k]? :=by rw[oR (Nat.le_add_right _ _),aaj]
@[simp]theorem qW(S:St)(l:List cF)(k:Nat)(b:cF):(S++l).set (S.length+k) b=S++l.set k b:=by rw[List.set_append_right _ _ (Nat.le_add_right _ _),aaj]
@[simp]theorem arf(S:St)(i off:Nat):deref S (.ptr i off)=match S[i]? with
 |some (.mem cs _ _)=>some (cs,off)
 |_=>none:=rfl
@[simp]theorem ao4(S:St)(r:jQ)(cs:List AV)(off:Nat):deref S (.ec r cs off)=some (cs,off):=rfl
@[simp]theorem atf(off i o:Nat):ak0 off (.ptr i o)=some (.ptr i (o+off)):=rfl
@[simp]theorem arh(off:Nat)(r:jQ)(cs:List AV)(o:Nat):ak0 off (.ec r cs o)=some (.ec r cs (o+off)):=rfl
theorem bd{S:St}{i:Nat}{cs:List AV}{aa:List (Option Nat)}{l:Bool}(h:S[i]? =some (.mem cs aa l))(sh:Sh)(off:Nat):aY S sh (.ptr i off)=fC sh cs off:=by simp only[aY,deref,h]
@[simp]theorem aa1(S:St)(sh:Sh)(l:List cF)(k off:Nat):aY (S++l) sh (.ptr (S.length+k) off)=match l[k]? with
 |some (.mem cs _ _)=>fC sh cs off
 |_=>none:=by
 simp only[aY,deref,get_at];cases l[k]? with
 |none=>rfl
 |some b=>cases b<;>rfl
@[simp]theorem gQ(S:St)(sh:Sh)(l:List cF)(off:Nat):aY (S++l) sh (.ptr S.length off)=match l[0]? with
 |some (cF.mem cs _ _)=>fC sh cs off
 |_=>none:=aa1 S sh l 0 off
@[simp]theorem ao5(S:St)(sh:Sh)(r:jQ)(cs:List AV)(off:Nat):aY S sh (.ec r cs off)=fC sh cs off:=rfl
@[simp]theorem pC(l:List AV)(off:Nat):fC .cell l off=l[off]? :=rfl
end
def W9(P:Program):Nat->List (Option KF)->Prop
 |_,[]=>True
 |n,none::r=>True/\W9 P (n+1) r
 |n,some k::r=>(∃fn,P.funcs[n]? =some fn/\dw P fn k)/\W9 P (n+1) r
theorem aie{P:Program}:∀{l:List (Option KF)}{n i:Nat}{k:KF},W9 P n l->l[i]? =some (some k)->∃fn,P.funcs[n+i]? =some fn/\dw P fn k:=by
 intro l;induction l with
 |nil=>intro n i k _ h;simp at h
 |cons x l ih=>
  intro n i k h e;cases i with
  |zero=>
   simp at e;subst e;exact h.1
  |succ i=>
   have h2:W9 P (n+1) l:=by cases x<;>exact h.2
   have:=ih h2 (by simpa using e);rwa [pv,Nat.add_comm 1 i]at this
theorem agf{P:Program}{l:List (Option KF)}{i:Nat}{k:KF}(h:W9 P 0 l)(e:(l[i]?).join=some k):∃fn,P.funcs[i]? =some fn/\dw P fn k:=by
 have:=aie (i:=i) h (k:=k) (by
  cases hx:l[i]? with
  |none=>simp[hx]at e
  |some y=>simp[hx]at e;rw[e])
 simpa using this
end
section
abbrev bq:=List UInt8
structure CO(v:AV):Prop where
 norm:am.norm v=v
 yr:am.yr v=v
 bD:am.bD v=v
 aB:am.aB v=v
 aiC:∀aa,a9 aa v=(v,aa)
 take:∀aa,aT aa v=(v,aa)
 ayR:∀aa,cA aa v=(v,aa)
 awU:∀S,bN S v=some v
 lock:∀S,cg S v=S
 unlock:∀S0 S,bB S0 S v=S
 aS:am.aS v=true
 plr:aw v=true
 val:aaq v=true
 atn:bu v=true
structure wb(v:AV):Prop where
 cY:am.cY v=v
 aB:am.aB v=v
 aS:am.aS v=true
 ayT:∀cs,v≠.agg cs
 nf:am.nf v=true
 val:aaq v=true
section
variable{v:AV}
@[simp]theorem ato(h:CO v):am.norm v=v:=h.norm
@[simp]theorem ark(h:CO v):am.bD v=v:=h.bD
@[simp]theorem Xn(h:CO v):am.aB v=v:=h.aB
@[simp]theorem am9(h:CO v)(aa:List (Option Nat)):a9 aa v=(v,aa):=h.aiC aa
@[simp]theorem am_(h:CO v)(aa:List (Option Nat)):aT aa v=(v,aa):=h.take aa
@[simp]theorem ana(h:CO v)(S:St):bN S v=some v:=h.awU S
@[simp]theorem anb(h:CO v)(S:St):cg S v=S:=h.lock S
@[simp]theorem akx(h:CO v)(S0 S:St):bB S0 S v=S:=h.unlock S0 S
@[simp]theorem arl(h:CO v):am.aS v=true:=h.aS
@[simp]theorem alz(h:CO v):aw v=true:=h.plr
@[simp]theorem apf(h:CO v):bu v=true:=h.atn
end
@[simp]theorem anc(S:St):dW S []=S:=rfl
@[simp]theorem alA(S:St)(v:AV)(r:List AV):dW S (v::r)=dW (cg S v) r:=rfl
@[simp]theorem aky(S0 S:St):dj S0 S []=S:=rfl
@[simp]theorem aiD(S0 S:St)(v:AV)(r:List AV):dj S0 S (v::r)=dj S0 (bB S0 S v) r:=rfl
theorem z8:∀{l:List AV},ck l=true↔∀x∈l,aS x=true
 |[]=>by simp[ck]
 |v::r=>by simp[ck,z8 (l:=r)]
theorem jJ:∀{l:List (List AV)},ct l=true↔∀x∈l,ck x=true
 |[]=>by simp[ct]
 |v::r=>by simp[ct,jJ (l:=r)]
def j1(cs:List AV):Prop:=∀x∈cs,wb x
@[simp]theorem atp:j1 []:=by simp[j1]
@[simp]theorem arn{a:AV}{r:List AV}:j1 (a::r)↔wb a/\j1 r:=by simp[j1]
@[simp]theorem ane{a b:List AV}:j1 (a++b)↔j1 a/\j1 b:=by simp only[j1,MJ];exact⟨fun h=>⟨fun x hx=>h x (.inl hx),fun x hx=>h x (.inr hx)⟩,fun h x hx=>hx.elim (h.1 x) (h.2 x)⟩
theorem j1.dN{cs:List AV}(h:j1 cs):cs.map am.aB=cs:=by rw[SO (g:=id) fun x hx=>(h x hx).aB];simp
theorem j1.kU{cs:List AV}(h:j1 cs):cs.map am.cY=cs:=by rw[SO (g:=id) fun x hx=>(h x hx).cY];simp
theorem j1.aS{cs:List AV}(h:j1 cs):ck cs=true:=z8.2 fun x hx=>(h x hx).aS
theorem wb.Xo{v:AV}(h:wb v):CO v:=by
 obtain⟨h1,h2,h3,h4,h5,h6⟩:=h;cases v with
 |agg cs=>exact absurd rfl (h4 cs)
 |sl r sz es=>
  cases r with
  |none=>cases es<;>(refine⟨?_, ?_, ?_,h2, ?_, ?_, ?_, ?_, ?_, ?_,h3,h3,h6, ?_⟩<;>intros<;>first|rfl|exact h1|(simp[bN,h2]))
  |mz i=>simp[am.aS]at h3
  |exact=>cases es<;>simp[am.cY]at h1
  |fresh=>simp[am.aS]at h3
  |fr n=>simp[am.aS]at h3
  |bx i j=>simp[am.aS]at h3
 |ah=>simp[am.cY]at h1
 |undef=>simp[am.aS]at h3
 |cT=>simp[am.aS]at h3
 |iC=>simp[am.aS]at h3
 |ptr=>simp[am.aS]at h3
 |ec r cs o=>
  cases r with
  |none=>refine⟨?_, ?_, ?_,h2, ?_, ?_, ?_, ?_, ?_, ?_,h3,h3,h6, ?_⟩<;>intros<;>rfl
  |_=>simp[am.aS]at h3
 |aref=>simp[am.aS]at h3
 |fn=>simp[am.aS]at h3
 |_=>refine⟨?_, ?_, ?_,h2, ?_, ?_, ?_, ?_, ?_, ?_,h3,h3,h6, ?_⟩<;>intros<;>rfl
theorem j1.agg{cs:List AV}(h:j1 cs):CO (.agg cs):=by have h1:=h.kU;have h2:=h.aS;refine⟨?_, ?_, ?_,rfl, ?_, ?_, ?_, ?_, ?_, ?_,h2,h2,rfl,rfl⟩<;>intros<;>first|rfl|(simp[am.norm,am.yr,am.bD,h1])
@[simp]theorem agr(b:Bool):wb (.bool b):=⟨rfl,rfl,rfl,by simp,rfl,rfl⟩
@[simp]theorem M5(k:IntKind)(n:Int):wb (.int k n):=⟨rfl,rfl,rfl,by simp,rfl,rfl⟩
@[simp]theorem aiE(s:List UInt8):wb (.str s):=⟨rfl,rfl,rfl,by simp,rfl,rfl⟩
@[simp]theorem Xp:wb .bP:=⟨rfl,rfl,rfl,by simp,rfl,rfl⟩
@[simp]theorem YP(t:TypeId)(k:IntKind)(n:Int):wb (.iL t (.int k n)):=⟨rfl,rfl,rfl,by simp,rfl,rfl⟩
@[simp]theorem abo(b:Bool):CO (.bool b):=(agr b).Xo
@[simp]theorem vH(k:IntKind)(n:Int):CO (.int k n):=(M5 k n).Xo
@[simp]theorem YQ(s:List UInt8):CO (.str s):=(aiE s).Xo
@[simp]theorem atq:CO .bP:=Xp.Xo
@[simp]theorem anf(t:TypeId)(k:IntKind)(n:Int):CO (.iL t (.int k n)):=(YP t k n).Xo
@[simp]theorem jE{cs:List AV}(h:j1 cs):CO (.agg cs):=h.agg
@[simp]theorem ave(f:FuncId)(a b:List AV):am.norm (.fn f a b)=.fn f a b:=rfl
@[simp]theorem atr(f:FuncId)(a b:List AV):am.yr (.fn f a b)=.fn f a b:=rfl
@[simp]theorem apg(S:St)(f:FuncId)(a b:List AV):bN S (.fn f a b)=some (.fn f a b):=rfl
@[simp]theorem aph(S:St)(f:FuncId)(a b:List AV):cg S (.fn f a b)=S:=rfl
@[simp]theorem alB(S0 S:St)(f:FuncId)(a b:List AV):bB S0 S (.fn f a b)=S:=rfl
@[simp]theorem ats(i o:Nat):am.norm (.ptr i o)=.ptr i o:=rfl
@[simp]theorem aro(i o:Nat):am.yr (.ptr i o)=.ptr i o:=rfl
@[simp]theorem ang(S:St)(i o:Nat):bN S (.ptr i o)=some (.ptr i o):=rfl
@[simp]theorem anh(S:St)(i o:Nat):cg S (.ptr i o)=S:=rfl
@[simp]theorem akz(S0 S:St)(i o:Nat):bB S0 S (.ptr i o)=S:=rfl
def iA(sz:Nat):List (List AV)->AV
 |[]=>.sl .none 1 []
 |e::r=>.sl .none sz (e::r)
theorem iZ(sz:Nat){es:List (List AV)}(h:∀x∈es,j1 x):wb (iA sz es):=by
 have hp:ct es=true:=jJ.2 fun x hx=>(h x hx).aS;cases es with
 |nil=>exact⟨rfl,rfl,rfl,by simp[iA],rfl,rfl⟩
 |cons e r=>exact⟨rfl,rfl,hp,by simp[iA],rfl,rfl⟩
@[simp]theorem ani(sz:Nat)(es:List (List AV)):gj (iA sz es)=some (.int .i64 es.length):=by cases es<;>rfl
theorem adG(sz:Nat)(es:List (List AV))(k:IntKind)(i:Int):oa sz (iA sz es) (.int k i)=if i<0 then none else(es[i.toNat]?).map fun cs=>.ec .none cs 0:=by
 cases es with
 |nil=>simp[iA,oa]
 |cons e r=>simp[iA,oa,vW]
@[simp]theorem avf(sz:Nat)(es:List (List AV))(k:IntKind)(i:Nat):oa sz (iA sz es) (.int k (i:Int))=(es[i]?).map fun cs=>.ec .none cs 0:=by rw[adG,if_neg (by omega)];simp
theorem kE{l a b c:List AV}{off n:Nat}(hl:l=a++(b++c))(ha:a.length=off)(hb:b.length=n)(hd:b.map am.aB=b):fC (.agg n) l off=some (.agg b):=by subst hl ha hb;simp only[fC,sub,gP];rw[if_pos (by omega)];simp[hd]
theorem sY{l:List AV}{n:Nat}(hb:l.length=n)(hd:j1 l):fC (.agg n) l 0=some (.agg l):=
 kE (a:=[]) (b:=l) (c:=[]) (by simp) rfl hb hd.dN
def gy(b:UInt8):AV:=.int .u8 (b.toNat:Int)
def aK(l:List UInt8):List AV:=l.map gy
@[simp]theorem anj(l:List UInt8):(aK l).length=l.length:=by simp[aK]
@[simp]theorem adH(b:UInt8):wb (gy b):=M5 _ _
@[simp]theorem cH(l:List UInt8):j1 (aK l):=by intro x hx;simp only[aK,Fq]at hx;obtain⟨b,_,rfl⟩:=hx;exact adH b
def bO(l:List UInt8):AV:=iA 1 (l.map fun b=>[gy b])
@[simp]theorem z9(l:List UInt8):wb (bO l):=iZ 1 (by simp[j1])
@[simp]theorem arp(l:List UInt8):CO (bO l):=(z9 l).Xo
@[simp]theorem ank(l:List UInt8):gj (bO l)=some (.int .i64 l.length):=by simp[bO]
def cw(l:List bq):AV:=iA 1 (l.map fun s=>[.str s])
@[simp]theorem YR(l:List bq):wb (cw l):=iZ 1 (by simp[j1])
@[simp]theorem anl(l:List bq):CO (cw l):=(YR l).Xo
@[simp]theorem akA(l:List bq):gj (cw l)=some (.int .i64 l.length):=by simp[cw]
def jn(l:List Int):AV:=iA 1 (l.map fun s=>[.int .u64 s])
@[simp]theorem abp(l:List Int):wb (jn l):=iZ 1 (by simp[j1])
@[simp]theorem api(l:List Int):CO (jn l):=(abp l).Xo
@[simp]theorem alC(l:List Int):gj (jn l)=some (.int .i64 l.length):=by simp[jn]
structure dK where
 name:bq
 id:Int
 deriving DecidableEq
def dK.ai(s:dK):List AV:=[.str s.name,.int .u64 s.id]
def eD(p:List dK):AV:=iA 2 (p.map dK.ai)
inductive aX where
 |mk (kind n:Int) (s:bq) (aU:List bq) (ids:List Int) (parts:List aX)
namespace aX
def kind:aX->Int|.mk k _ _ _ _ _=>k
def n:aX->Int|.mk _ n _ _ _ _=>n
def s:aX->bq|.mk _ _ s _ _ _=>s
def aU:aX->List bq|.mk _ _ _ l _ _=>l
def ids:aX->List Int|.mk _ _ _ _ l _=>l
def parts:aX->List aX|.mk _ _ _ _ _ l=>l
end aX
mutual
def aX.ai:aX->List AV
 |.mk k n s ns is ps=>[.int .i64 k,.int .i64 n,.str s,cw ns,jn is,iA 6 (aX.Hy ps)]
def aX.Hy:List aX->List (List AV)
 |[]=>[]
 |v::r=>aX.ai v::aX.Hy r
end
inductive bj where
 |mk (kind:Int) (ar:List bq) (parts:List bj)
namespace bj
def kind:bj->Int|.mk k _ _=>k
def ar:bj->List bq|.mk _ l _=>l
def parts:bj->List bj|.mk _ _ l=>l
end bj
mutual
def bj.ai:bj->List AV
 |.mk k ws ps=>[.int .i64 k,cw ws,iA 3 (bj.Hy ps)]
def bj.Hy:List bj->List (List AV)
 |[]=>[]
 |v::r=>bj.ai v::bj.Hy r
end
structure dQ where
 x:aX
 y:aX
def dQ.ai(p:dQ):List AV:=p.x.ai++p.y.ai
inductive bn where
 |mk (kind:Int) (a b:bq) (type:bj) (base back:aX) (aO:List dQ) (bf:List bn)
namespace bn
def kind:bn->Int|.mk k _ _ _ _ _ _ _=>k
def a:bn->bq|.mk _ a _ _ _ _ _ _=>a
def b:bn->bq|.mk _ _ b _ _ _ _ _=>b
def type:bn->bj|.mk _ _ _ t _ _ _ _=>t
def base:bn->aX|.mk _ _ _ _ x _ _ _=>x
def back:bn->aX|.mk _ _ _ _ _ x _ _=>x
def aO:bn->List dQ|.mk _ _ _ _ _ _ l _=>l
def bf:bn->List bn|.mk _ _ _ _ _ _ _ l=>l
end bn
mutual
def bn.ai:bn->List AV
 |.mk k a b t x y ps is=>[.int .i64 k,.str a,.str b]++(t.ai++(x.ai++(y.ai++[iA 12 (ps.map dQ.ai),iA 20 (bn.Hy is)])))
def bn.Hy:List bn->List (List AV)
 |[]=>[]
 |v::r=>bn.ai v::bn.Hy r
end
structure ph where
 kind:Int
 path:List dK
 id:Int
 after:Int
 value:aX
def ph.ai(o:ph):List AV:=[.int .i64 o.kind,eD o.path,.int .u64 o.id,.int .u64 o.after]++o.value.ai
structure aaf where
 kind:Int
 aP:List UInt8
 az:List (List UInt8)
 op:ph
 lens:bn
 key:List UInt8
 sig:List UInt8
def pG(l:List (List UInt8)):AV:=iA 32 (l.map aK)
def aaf.ai(e:aaf):List AV:=.int .i64 e.kind::(aK e.aP++(pG e.az::(e.op.ai++(e.lens.ai++(aK e.key++aK e.sig)))))
end
section
theorem aX.M6(l:List aX):aX.Hy l=l.map aX.ai:=by induction l with|nil=>simp[aX.Hy]|cons v r ih=>simp[aX.Hy,ih]
theorem bj.M6(l:List bj):bj.Hy l=l.map bj.ai:=by induction l with|nil=>simp[bj.Hy]|cons v r ih=>simp[bj.Hy,ih]
theorem bn.M6(l:List bn):bn.Hy l=l.map bn.ai:=by induction l with|nil=>simp[bn.Hy]|cons v r ih=>simp[bn.Hy,ih]
def lU(l:List aX):AV:=iA 6 (l.map aX.ai)
def oU(l:List bj):AV:=iA 3 (l.map bj.ai)
def s_(l:List bn):AV:=iA 20 (l.map bn.ai)
def nj(l:List dQ):AV:=iA 12 (l.map dQ.ai)
theorem aX.fA(v:aX):v.ai=[.int .i64 v.kind,.int .i64 v.n,.str v.s,cw v.aU,jn v.ids,lU v.parts]:=by cases v;simp[aX.ai,aX.M6,lU,aX.kind,aX.n,aX.s,aX.aU,aX.ids,aX.parts]
theorem bj.fA(v:bj):v.ai=[.int .i64 v.kind,cw v.ar,oU v.parts]:=by cases v;simp[bj.ai,bj.M6,oU,bj.kind,bj.ar,bj.parts]
theorem bn.fA(l:bn):l.ai=[.int .i64 l.kind,.str l.a,.str l.b]++(l.type.ai++(l.base.ai++(l.back.ai++[nj l.aO,s_ l.bf]))):=by cases l;simp[bn.ai,bn.M6,s_,nj,bn.kind,bn.a,bn.b,bn.type,bn.base,bn.back,bn.aO,bn.bf]
@[simp]theorem aX.sA(v:aX):v.ai.length=6:=by simp[aX.fA]
@[simp]theorem bj.sA(v:bj):v.ai.length=3:=by simp[bj.fA]
@[simp]theorem bn.sA(v:bn):v.ai.length=20:=by simp[bn.fA]
@[simp]theorem dQ.sA(v:dQ):v.ai.length=12:=by simp[dQ.ai]
@[simp]theorem dK.sA(v:dK):v.ai.length=2:=rfl
@[simp]theorem ph.sA(v:ph):v.ai.length=10:=by simp[ph.ai]
theorem aX.ind{p:aX->Prop}(h:∀v,(∀x∈v.parts,p x)->p v):∀v,p v:=by
 intro v;have key:∀n,∀v:aX,SizeOf.sizeOf v<=n->p v:=by
  intro n;induction n with
  |zero=>intro v hv;cases v;simp at hv
  |succ n ih=>
   intro v hv;refine h v fun x hx=>ih x ?_;cases v with
   |mk k n' s ns is ps=>
    have:=adA (show x∈ps from hx);simp at hv;omega
 exact key _ v (eJ _)
theorem bj.ind{p:bj->Prop}(h:∀v,(∀x∈v.parts,p x)->p v):∀v,p v:=by
 intro v;have key:∀n,∀v:bj,SizeOf.sizeOf v<=n->p v:=by
  intro n;induction n with
  |zero=>intro v hv;cases v;simp at hv
  |succ n ih=>
   intro v hv;refine h v fun x hx=>ih x ?_;cases v with
   |mk k ws ps=>
    have:=adA (show x∈ps from hx);simp at hv;omega
 exact key _ v (eJ _)
theorem bn.ind{p:bn->Prop}(h:∀v,(∀x∈v.bf,p x)->p v):∀v,p v:=by
 intro v;have key:∀n,∀v:bn,SizeOf.sizeOf v<=n->p v:=by
  intro n;induction n with
  |zero=>intro v hv;cases v;simp at hv
  |succ n ih=>
   intro v hv;refine h v fun x hx=>ih x ?_;cases v with
   |mk k a b t u w ps is=>
    have:=adA (show x∈is from hx);simp at hv;omega
 exact key _ v (eJ _)
theorem lV{α:Type}{f:α->List AV}{l:List α}(h:∀x∈l,j1 (f x)):∀y∈l.map f,j1 y:=by intro y hy;simp only[Fq]at hy;obtain⟨x,hx,rfl⟩:=hy;exact h x hx
@[simp]theorem aX.fJ(v:aX):j1 v.ai:=by
 induction v using aX.ind with
 |h v ih=>
  rw[aX.fA];simp;exact iZ 6 (lV ih)
@[simp]theorem adI(l:List aX):wb (lU l):=iZ 6 (lV fun x _=>aX.fJ x)
@[simp]theorem arq(l:List aX):CO (lU l):=(adI l).Xo
@[simp]theorem bj.fJ(v:bj):j1 v.ai:=by
 induction v using bj.ind with
 |h v ih=>
  rw[bj.fA];simp;exact iZ 3 (lV ih)
@[simp]theorem adJ(l:List bj):wb (oU l):=iZ 3 (lV fun x _=>bj.fJ x)
@[simp]theorem ars(l:List bj):CO (oU l):=(adJ l).Xo
@[simp]theorem dQ.fJ(v:dQ):j1 v.ai:=by simp[dQ.ai]
@[simp]theorem adK(l:List dQ):wb (nj l):=iZ 12 (lV fun x _=>dQ.fJ x)
@[simp]theorem art(l:List dQ):CO (nj l):=(adK l).Xo
@[simp]theorem bn.fJ(v:bn):j1 v.ai:=by
 induction v using bn.ind with
 |h v ih=>
  rw[bn.fA];simp;exact iZ 20 (lV ih)
@[simp]theorem adL(l:List bn):wb (s_ l):=iZ 20 (lV fun x _=>bn.fJ x)
@[simp]theorem aru(l:List bn):CO (s_ l):=(adL l).Xo
@[simp]theorem dK.fJ(v:dK):j1 v.ai:=by simp[dK.ai]
@[simp]theorem YS(l:List dK):wb (eD l):=iZ 2 (lV fun x _=>dK.fJ x)
@[simp]theorem anm(l:List dK):CO (eD l):=(YS l).Xo
@[simp]theorem ph.fJ(v:ph):j1 v.ai:=by simp[ph.ai]
@[simp]theorem adM(l:List (List UInt8)):wb (pG l):=iZ 32 (lV fun x _=>cH x)
@[simp]theorem arv(l:List (List UInt8)):CO (pG l):=(adM l).Xo
@[simp]theorem aaf.fJ(v:aaf):j1 v.ai:=by simp[aaf.ai]
@[simp]theorem ann(l:List aX):gj (lU l)=some (.int .i64 l.length):=by simp[lU]
@[simp]theorem ano(l:List bj):gj (oU l)=some (.int .i64 l.length):=by simp[oU]
@[simp]theorem anp(l:List bn):gj (s_ l)=some (.int .i64 l.length):=by simp[s_]
@[simp]theorem anq(l:List dQ):gj (nj l)=some (.int .i64 l.length):=by simp[nj]
@[simp]theorem akB(l:List dK):gj (eD l)=some (.int .i64 l.length):=by simp[eD]
@[simp]theorem anr(l:List (List UInt8)):gj (pG l)=some (.int .i64 l.length):=by simp[pG]
@[simp]theorem apj(l:List aX)(k:IntKind)(i:Nat):oa 6 (lU l) (.int k (i:Int))=(l[i]?).map fun v=>.ec .none v.ai 0:=by simp[lU,Fs]
@[simp]theorem z_(l:List bj)(k:IntKind)(i:Nat):oa 3 (oU l) (.int k (i:Int))=(l[i]?).map fun v=>.ec .none v.ai 0:=by simp[oU,Fs]
@[simp]theorem D2(l:List bn)(k:IntKind)(i:Nat):oa 20 (s_ l) (.int k (i:Int))=(l[i]?).map fun v=>.ec .none v.ai 0:=by simp[s_,Fs]
@[simp]theorem apk(l:List dQ)(k:IntKind)(i:Nat):oa 12 (nj l) (.int k (i:Int))=(l[i]?).map fun v=>.ec .none v.ai 0:=by simp[nj,Fs]
@[simp]theorem alD(l:List dK)(k:IntKind)(i:Nat):oa 2 (eD l) (.int k (i:Int))=(l[i]?).map fun v=>.ec .none v.ai 0:=by simp[eD,Fs]
@[simp]theorem apl(l:List (List UInt8))(k:IntKind)(i:Nat):oa 32 (pG l) (.int k (i:Int))=(l[i]?).map fun v=>.ec .none (aK v) 0:=by simp[pG,Fs]
@[simp]theorem M7(l:List bq)(k:IntKind)(i:Nat):oa 1 (cw l) (.int k (i:Int))=(l[i]?).map fun v=>.ec .none [.str v] 0:=by simp[cw,Fs]
@[simp]theorem ans(l:List Int)(k:IntKind)(i:Nat):oa 1 (jn l) (.int k (i:Int))=(l[i]?).map fun v=>.ec .none [.int .u64 v] 0:=by simp[jn,Fs]
@[simp]theorem Aa(l:List UInt8)(k:IntKind)(i:Nat):oa 1 (bO l) (.int k (i:Int))=(l[i]?).map fun v=>.ec .none [gy v] 0:=by simp[bO,Fs]
@[simp high]theorem aX.f0(v:aX):v.ai[0]? =some (.int .i64 v.kind):=by simp[aX.fA]
@[simp high]theorem aX.f1(v:aX):v.ai[1]? =some (.int .i64 v.n):=by simp[aX.fA]
@[simp high]theorem aX.f2(v:aX):v.ai[2]? =some (.str v.s):=by simp[aX.fA]
@[simp high]theorem aX.f3(v:aX):v.ai[3]? =some (cw v.aU):=by simp[aX.fA]
@[simp high]theorem aX.f4(v:aX):v.ai[4]? =some (jn v.ids):=by simp[aX.fA]
@[simp high]theorem aX.f5(v:aX):v.ai[5]? =some (lU v.parts):=by simp[aX.fA]
@[simp]theorem aX.all(v:aX):fC (.agg 6) v.ai 0=some (.agg v.ai):=sY (by simp) (by simp)
@[simp high]theorem bj.f0(v:bj):v.ai[0]? =some (.int .i64 v.kind):=by simp[bj.fA]
@[simp high]theorem bj.f1(v:bj):v.ai[1]? =some (cw v.ar):=by simp[bj.fA]
@[simp high]theorem bj.f2(v:bj):v.ai[2]? =some (oU v.parts):=by simp[bj.fA]
@[simp]theorem bj.all(v:bj):fC (.agg 3) v.ai 0=some (.agg v.ai):=sY (by simp) (by simp)
@[simp high]theorem dK.f0(v:dK):v.ai[0]? =some (.str v.name):=rfl
@[simp high]theorem dK.f1(v:dK):v.ai[1]? =some (.int .u64 v.id):=rfl
@[simp]theorem dK.all(v:dK):fC (.agg 2) v.ai 0=some (.agg v.ai):=sY (by simp) (by simp)
@[simp]theorem att(l:List UInt8)(h:l.length=32):fC (.agg 32) (aK l) 0=some (.agg (aK l)):=sY (by simp[h]) (by simp)
@[simp]theorem dQ.fx(v:dQ):fC (.agg 6) v.ai 0=some (.agg v.x.ai):=kE (a:=[]) (b:=v.x.ai) (c:=v.y.ai) (by simp[dQ.ai]) rfl (by simp) (aX.fJ _).dN
@[simp]theorem dQ.fy(v:dQ):fC (.agg 6) v.ai 6=some (.agg v.y.ai):=kE (a:=v.x.ai) (b:=v.y.ai) (c:=[]) (by simp[dQ.ai]) (by simp) (by simp) (aX.fJ _).dN
@[simp]theorem dQ.all(v:dQ):fC (.agg 12) v.ai 0=some (.agg v.ai):=sY (by simp) (by simp)
@[simp high]theorem bn.f0(v:bn):v.ai[0]? =some (.int .i64 v.kind):=by simp[bn.fA]
@[simp high]theorem bn.f1(v:bn):v.ai[1]? =some (.str v.a):=by simp[bn.fA]
@[simp high]theorem bn.f2(v:bn):v.ai[2]? =some (.str v.b):=by simp[bn.fA]
@[simp high]theorem bn.f3(v:bn):fC (.agg 3) v.ai 3=some (.agg v.type.ai):=kE (bn.fA v) rfl (by simp) (bj.fJ _).dN
@[simp high]theorem bn.f6(v:bn):fC (.agg 6) v.ai 6=some (.agg v.base.ai):=
 kE (a:=[.int .i64 v.kind,.str v.a,.str v.b]++v.type.ai) (b:=v.base.ai) (c:=v.back.ai++[nj v.aO,s_ v.bf]) (by simp[bn.fA v]) (by simp) (by simp) (aX.fJ _).dN
@[simp high]theorem bn.f12(v:bn):fC (.agg 6) v.ai 12=some (.agg v.back.ai):=
 kE (a:=[.int .i64 v.kind,.str v.a,.str v.b]++(v.type.ai++v.base.ai)) (b:=v.back.ai) (c:=[nj v.aO,s_ v.bf]) (by simp[bn.fA v]) (by simp) (by simp) (aX.fJ _).dN
theorem bn.aeX(v:bn):v.ai=([.int .i64 v.kind,.str v.a,.str v.b]++(v.type.ai++(v.base.ai++v.back.ai)))++[nj v.aO,s_ v.bf]:=by simp[bn.fA v]
@[simp high]theorem bn.f18(v:bn):v.ai[18]? =some (nj v.aO):=by rw[bn.aeX,oR (by simp)];simp
@[simp high]theorem bn.f19(v:bn):v.ai[19]? =some (s_ v.bf):=by rw[bn.aeX,oR (by simp)];simp
@[simp]theorem bn.all(v:bn):fC (.agg 20) v.ai 0=some (.agg v.ai):=sY (by simp) (by simp)
@[simp high]theorem ph.f0(v:ph):v.ai[0]? =some (.int .i64 v.kind):=by simp[ph.ai]
@[simp high]theorem ph.f1(v:ph):v.ai[1]? =some (eD v.path):=by simp[ph.ai]
@[simp high]theorem ph.f2(v:ph):v.ai[2]? =some (.int .u64 v.id):=by simp[ph.ai]
@[simp high]theorem ph.f3(v:ph):v.ai[3]? =some (.int .u64 v.after):=by simp[ph.ai]
@[simp high]theorem ph.f4(v:ph):fC (.agg 6) v.ai 4=some (.agg v.value.ai):=kE (a:=[.int .i64 v.kind,eD v.path,.int .u64 v.id,.int .u64 v.after]) (b:=v.value.ai) (c:=[]) (by simp[ph.ai]) rfl (by simp) (aX.fJ _).dN
@[simp]theorem ph.all(v:ph):fC (.agg 10) v.ai 0=some (.agg v.ai):=sY (by simp) (by simp)
structure aaf.Ok(e:aaf):Prop where
 aP:e.aP.length=32
 az:∀p∈e.az,p.length=32
 key:e.key.length=32
 sig:e.sig.length=64
section
variable{e:aaf}(h:e.Ok)
include h
@[simp]theorem aaf.sA:e.ai.length=160:=by simp[aaf.ai,h.aP,h.key,h.sig]
@[simp high]theorem aaf.f1:fC (.agg 32) e.ai 1=some (.agg (aK e.aP)):=
 kE (a:=[.int .i64 e.kind]) (b:=aK e.aP) (c:=pG e.az::(e.op.ai++(e.lens.ai++(aK e.key++aK e.sig)))) (by simp[aaf.ai]) rfl (by simp[h.aP]) (cH _).dN
@[simp high]theorem aaf.f33:e.ai[33]? =some (pG e.az):=by
 have:e.ai=(.int .i64 e.kind::aK e.aP)++(pG e.az::(e.op.ai++(e.lens.ai++(aK e.key++aK e.sig)))):=by simp[aaf.ai]
 rw[this,oR (by simp[h.aP])];simp[h.aP]
@[simp high]theorem aaf.f34:fC (.agg 10) e.ai 34=some (.agg e.op.ai):=
 kE (a:=.int .i64 e.kind::(aK e.aP++[pG e.az])) (b:=e.op.ai) (c:=e.lens.ai++(aK e.key++aK e.sig)) (by simp[aaf.ai]) (by simp[h.aP]) (by simp) (ph.fJ _).dN
@[simp high]theorem aaf.f44:fC (.agg 20) e.ai 44=some (.agg e.lens.ai):=
 kE (a:=.int .i64 e.kind::(aK e.aP++(pG e.az::e.op.ai))) (b:=e.lens.ai) (c:=aK e.key++aK e.sig) (by simp[aaf.ai]) (by simp[h.aP]) (by simp) (bn.fJ _).dN
@[simp high]theorem aaf.f64:fC (.agg 32) e.ai 64=some (.agg (aK e.key)):=
 kE (a:=.int .i64 e.kind::(aK e.aP++(pG e.az::(e.op.ai++e.lens.ai)))) (b:=aK e.key) (c:=aK e.sig) (by simp[aaf.ai]) (by simp[h.aP]) (by simp[h.key]) (cH _).dN
@[simp high]theorem aaf.f96:fC (.agg 64) e.ai 96=some (.agg (aK e.sig)):=
 kE (a:=.int .i64 e.kind::(aK e.aP++(pG e.az::(e.op.ai++(e.lens.ai++aK e.key))))) (b:=aK e.sig) (c:=[]) (by simp[aaf.ai]) (by simp[h.aP,h.key]) (by simp[h.sig]) (cH _).dN
@[simp]theorem aaf.all:fC (.agg 160) e.ai 0=some (.agg e.ai):=sY (aaf.sA h) (by simp)
end
@[simp high]theorem aaf.f0(e:aaf):e.ai[0]? =some (.int .i64 e.kind):=rfl
end
attribute [simp] ow ahW bS ahX bH Yh Hr aoj aoh CE aoi af7 ahV ahY ac4 cK dh aaq AV.cells aav
theorem ak{ax:FuncId->Option KF}{nk:NK}{c c':KC}(e:c=c')(K:bw)(S:St):DC ax nk c K S=DC ax nk c' K S:=by rw[e]
theorem ae{ax:FuncId->Option KF}{nk:NK}{c b:KC}{l:List Nat}(e:c=.aN l b)(K:bw)(S:St):DC ax nk (.loop c) K S=DC ax nk (.loop c) (K.aN l) S:=by subst e;exact Ys l b K S
theorem wrap64{x:Int}(h: -9223372036854775808<=x/\x<9223372036854775808):IntKind.i64.wrap x=x:=by simp[IntKind.wrap,IntKind.bits,IntKind.signed];omega
@[simp]theorem aV{i:Nat}(h:i+1<9223372036854775808):IntKind.i64.wrap ((i:Int)+1)=((i+1:Nat):Int):=by rw[wrap64 (by omega)];omega
@[simp]theorem ahH(a b:Nat):((a:Int)=(b:Int))=(a=b):=by simp[Int.ofNat_inj]
@[simp]theorem alE(a b:Int):(a==b)=decide (a=b):=by rw[Bool.beq_eq_decide_eq]
@[simp]theorem avg(a b:List UInt8):(a==b)=decide (a=b):=by
 by_cases h:a=b;·subst h;simp
 ·simp[h]
@[simp]theorem avh(a b:Int):(a !=b)= !decide (a=b):=by rw[bne,alE]
attribute [simp] lL z5
noncomputable def same{α:Type}(a b:α):Bool:=open Classical in decide (a=b)
theorem mR{α:Type}{a b:α}:same a b=true↔a=b:=by simp[same]
@[simp]theorem ags{α:Type}(a:α):same a a=true:=by simp[same]
theorem fc{α:Type}{a b:α}:same a b=false↔a≠b:=by simp[same]
theorem jr{α:Type}[DecidableEq α](a b:α):same a b=decide (a=b):=by
 by_cases h:a=b;·simp[h]
 ·simp[fc.2 h,h]
theorem Xq:∀(x y:List UInt8)(n:Nat),x.length=n->y.length=n->JC (List.replicate n Kd.i) (aK x) (aK y)=some (same x y):=by
 intro x;induction x with
 |nil=>intro y n h1 h2;subst h1;cases y<;>simp_all[aK,JC]
 |cons a x ih=>
  intro y n h1 h2;subst h1;cases y with
  |nil=>simp at h2
  |cons b y=>
   have:=ih y x.length rfl (by simpa using h2);simp only[jC,acT,aK,pz,gy,JC,if_true];simp only[aK]at this;change Option.map _ (JC (List.replicate x.length Kd.i) (x.map gy) (y.map gy))=_;rw[this];simp only[qJ,jB];by_cases e:a=b
   ·subst e
    by_cases e2:x=y;·subst e2;simp
    ·rw[fc.2 e2,fc.2 (by simpa using e2)];simp
   ·rw[fc.2 (show a::x≠b::y by simp[e])]
    have:((a.toNat:Int)==(b.toNat:Int))=false:=by have h3:a.toNat≠b.toNat:=fun h=>e (UInt8.toNat_inj.1 h);rw[beq_eq_false_iff_ne];intro h;exact h3 (by omega)
    simp[this]
@[simp]theorem awV{x y:List UInt8}(hx:x.length=32)(hy:y.length=32):JC [.i,.i,.i,.i,.i,.i,.i,.i,.i,.i,.i,.i,.i,.i,.i,.i,.i,.i,.i,.i,.i,.i,.i,.i,.i,.i,.i,.i,.i,.i,.i,.i] (aK x) (aK y)=some (same x y):=Xq x y 32 hx hy
@[simp]theorem awW{x y:List UInt8}(hx:x.length=64)(hy:y.length=64):JC [.i,.i,.i,.i,.i,.i,.i,.i,.i,.i,.i,.i,.i,.i,.i,.i,.i,.i,.i,.i,.i,.i,.i,.i,.i,.i,.i,.i,.i,.i,.i,.i,.i,.i,.i,.i,.i,.i,.i,.i,.i,.i,.i,.i,.i,.i,.i,.i,.i,.i,.i,.i,.i,.i,.i,.i,.i,.i,.i,.i,.i,.i,.i,.i] (aK x) (aK y)=some (same x y):=Xq x y 64 hx hy
@[simp]theorem atu(x y:dK):JC [.s,.i] x.ai y.ai=some (same x y):=by obtain⟨a,b⟩:=x;obtain⟨c,d⟩:=y;simp only[dK.ai,JC,if_true,qJ,jB];rw[jr];simp[Bool.beq_eq_decide_eq]
@[simp]theorem arw(ks:List Kd)(a b:List AV):kS (.agg ks) (.agg a) (.agg b)=JC ks a b:=rfl
@[simp]theorem aiF(q:EqK)(nc:Bool)(a b:List AV):du .eql q nc (.agg a) (.agg b)=(kS q (.agg a) (.agg b)).map .bool:=rfl
@[simp]theorem aiG(q:EqK)(nc:Bool)(a b:List AV):du .neq q nc (.agg a) (.agg b)=(kS q (.agg a) (.agg b)).map fun b=>.bool (!b):=rfl
@[simp]theorem adN(ts:List TypeId):du .eql (.iL ts) true .bP .bP=some (.bool true):=rfl
@[simp]theorem adO(ts:List TypeId):du .neq (.iL ts) true .bP .bP=some (.bool false):=rfl
@[simp]theorem adP(nc:Bool)(i o:Nat):du .eql .ptr nc (.ptr i o) .kF=some (.bool false):=rfl
@[simp]theorem adQ(nc:Bool)(i o:Nat):du .neq .ptr nc (.ptr i o) .kF=some (.bool true):=rfl
@[simp]theorem ahh(nc:Bool)(a b:Bool):du .eql .bool nc (.bool a) (.bool b)=some (.bool (a==b)):=rfl
@[simp]theorem ahi(nc:Bool)(a b:Bool):du .neq .bool nc (.bool a) (.bool b)=some (.bool (!(a==b))):=rfl
theorem adR{v:AV}(h:CO v)(aa:List (Option Nat))(i:Nat)(bt:List (Option Nat)):dU aa i bt v=(v,aa,bt):=by
 cases v with
 |sl r sz es=>
  cases r with
  |none=>rfl
  |fr n=>have:=h.aS;simp[am.aS]at this
  |bx i j=>have:=h.aS;simp[am.aS]at this
  |_=>rfl
 |_=>rfl
theorem fT{v:AV}(h:CO v){S:St}{i:Nat}{cs:List AV}{bt:List (Option Nat)}(hS:S[i]? =some (.mem cs bt false))(aa:List (Option Nat))(nb n off:Nat):
 bg aa nb S n (.ptr i off) v=if v.cells.length=n/\off+n<=cs.length then some (aa,S.set i (.mem (aL cs off v.cells) bt false))else none:=by
 simp only[bg,hS];by_cases hc:v.cells.length=n/\off+n<=cs.length
 ·rw[if_pos hc,if_pos ⟨h.val,hc.1,hc.2,.inr (by rw[h.aB];exact h.aS)⟩]
  simp only[adR h]
 ·rw[if_neg hc,if_neg]
  exact fun h=>hc ⟨h.2.1,h.2.2.1⟩
@[simp]theorem K6{v:AV}(h:CO v)(S:St)(l:List cF)(k off:Nat)(aa:List (Option Nat))(nb n:Nat):bg aa nb (S++l) n (.ptr (S.length+k) off) v=match l[k]? with
 |some (cF.mem cs bt false)=>if v.cells.length=n/\off+n<=cs.length then some (aa,S++l.set k (.mem (aL cs off v.cells) bt false))else none
 |_=>none:=by
 cases hl:l[k]? with
 |none=>simp[bg,hl]
 |some b=>
  cases b with
  |iter s p=>simp[bg,hl]
  |mem cs bt lk=>
   cases lk with
   |true=>simp[bg,hl]
   |false=>
    rw[fT h (cs:=cs) (bt:=bt) (by rw[get_at];exact hl)];simp only[qW]
@[simp]theorem atv{v:AV}(h:CO v)(n:Nat)(aa:List (Option Nat))(S:St):zQ n aa S v=OK n aa S v:=aid n aa S h.val
@[simp]theorem mS{v:AV}(h:CO v)(S:St)(l:List cF)(off:Nat)(aa:List (Option Nat))(nb n:Nat):bg aa nb (S++l) n (.ptr S.length off) v=match l[0]? with
 |some (cF.mem cs bt false)=>if v.cells.length=n/\off+n<=cs.length then some (aa,S++l.set 0 (.mem (aL cs off v.cells) bt false))else none
 |_=>none:=K6 h S l 0 off aa nb n
@[simp]theorem bX{cs vs:List AV}(h:vs.length=cs.length):aL cs 0 vs=vs:=by simp[aL,h]
def qP{α β:Type}(F:α->β->Bool):List α->List β->Bool
 |[],[]=>true
 |x::l,y::m=>F x y&&qP F l m
 |_,_=>false
theorem M8{α β:Type}{F:α->β->Bool}:∀{l:List α}{m:List β},l.length≠m.length->qP F l m=false
 |[],[],h=>absurd rfl h
 |[],_::_,_=>rfl
 |_::_,[],_=>rfl
 |x::l,y::m,h=>by have:l.length≠m.length:=fun e=>h (by simp[e]);simp[qP,M8 this]
theorem Hz{α:Type}{F:α->α->Bool}:∀{l m:List α},(∀x∈l,∀y∈m,F x y=same x y)->qP F l m=same l m
 |[],[],_=>by simp[qP]
 |[],y::m,_=>by rw[fc.2 (by simp)];rfl
 |x::l,[],_=>by rw[fc.2 (by simp)];rfl
 |x::l,y::m,h=>by
  have:=Hz (l:=l) (m:=m) fun a ha b hb=>h a (by simp[ha]) b (by simp[hb]);simp only[qP,this,h x (by simp) y (by simp)];by_cases e:x=y
  ·subst e
   by_cases e2:l=m;·subst e2;simp
   ·have h1:same l m=false:=fc.2 e2
    have h2:same (x::l) (x::m)=false:=fc.2 (by simp[e2]);rw[h1,h2];simp
  ·have h1:same x y=false:=fc.2 e
   have h2:same (x::l) (y::m)=false:=fc.2 (by simp[e]);rw[h1,h2];simp
theorem aJ{α:Type}{l:List α}{i:Nat}{x:α}(h:l[i]? =some x):l.drop i=x::l.drop (i+1):=by obtain⟨hi,rfl⟩:=fI.1 h;rw[List.drop_eq_getElem_cons hi]
theorem iN{α:Type}{l:List α}{i:Nat}(h:i<l.length):∃x,l[i]? =some x:=⟨l[i],Ct h⟩
theorem aE{α:Type}{l:List α}{i:Nat}(h:i<l.length):∃x,l[i]? =some x/\∀h:i<l.length,l[i]=x:=⟨l[i],Ct h,fun _=>rfl⟩
section
def QT(W:World)(b:Nat):Nat:=match W.heap[b]? with
 |some (.cells vs _ _)=>vs.size
 |_=>0
theorem Xy{W:World}{b o:Nat}{v:Value}(h:W.cell? ⟨b,o,none⟩=some v):o<QT W b:=by
 unfold World.cell? at h;unfold QT;simp only at h;split at h
 ·rename_i vs _ _ hb
  simp only[hb];simp at h;exact(MH.1 h).1
 ·cases h
def RVd(W:World)(a:AV)(v:Value):Prop:=∀mu lk,RV W mu (QT W) lk a v
def zy(W:World)(F9:List AV)(vs:List Value):Prop:=F9.length=vs.length/\∀(j:Nat)(a:AV),F9[j]? =some a->∃v,vs[j]? =some v/\RVd W a v/\nf a=true
theorem zy.nil{W:World}:zy W [] []:=⟨rfl,fun j a h=>by simp at h⟩
theorem zy.cons{W:World}{a:AV}{v:Value}{F9:List AV}{vs:List Value}(h:RVd W a v)(hn:nf a=true)(k:zy W F9 vs):zy W (a::F9) (v::vs):=by
 refine⟨by simp[k.1],fun j x hj=>?_⟩;cases j with
 |zero=>simp at hj;subst hj;exact⟨v,rfl,h,hn⟩
 |succ j=>simpa using k.2 j x (by simpa using hj)
theorem zy.append{W:World}{F9 bs:List AV}{vs us:List Value}(h:zy W F9 vs)(k:zy W bs us):zy W (F9++bs) (vs++us):=by
 refine⟨by simp[h.1,k.1],fun j x hj=>?_⟩;rcases iI j F9.length with cV|G2
 ·rw[kP cV]at hj
  obtain⟨v,hv,q⟩:=h.2 j x hj;exact⟨v,by rw[kP (by rw[<-h.1];exact cV)];exact hv,q⟩
 ·rw[oR G2]at hj
  obtain⟨v,hv,q⟩:=k.2 _ x hj;exact⟨v,by rw[oR (by rw[<-h.1];exact G2),<-h.1];exact hv,q⟩
theorem zy.part{W:World}{F9 bs:List AV}{cs:List Value}{o n:Nat}(h:zy W F9 ((cs.drop o).take n))(hl:F9.length=n)(k:zy W bs (cs.drop (o+n))):zy W (F9++bs) (cs.drop o):=by
 have e:cs.drop o=(cs.drop o).take n++cs.drop (o+n):=by rw[<-Hl];exact(Xj n (cs.drop o)).symm
 rw[e];exact h.append k
theorem zy.end_{W:World}{cs:List Value}{o:Nat}(h:cs.length=o):zy W [] (cs.drop o):=by rw[dV (by omega)];exact .nil
theorem RVd.agg{W:World}{F9:List AV}{cs:Array Value}(h:zy W F9 cs.toList):RVd W (.agg F9) (.agg cs):=by
 intro mu lk;have hl:=h.1;have:=RV.agg (w:=W) (mu:=mu) (hw:=QT W) (lk:=lk) F9 (fun j=>cs.toList.getD j (.bool false)) (fun j a hj=>(h.2 j a hj).choose_spec.2.2) (fun j a hj=>by obtain⟨v,hv,q,_⟩:=h.2 j a hj;rw[tE,hv];exact q mu lk)
 have e:((List.range F9.length).map fun j=>cs.toList.getD j (.bool false)).toArray=cs:=by
  apply Array.ext';simp only;apply K3;intro j;rw[hl];rcases iI j cs.toList.length with cV|G2
  ·simp only[gx,tE]
   rw[Fl cV,Ct cV];have xF:j<cs.size:=by simpa using cV
   simp[xF]
  ·rw[kR (by simpa using G2),kR G2]
 rwa [e]at this
section
variable{H:Type}{ai:TypeId × Value->H}{P:Program}{W:World}{base:Nat}{sp:Nat->Bool}{held:Bool}
theorem ad2{t:TypeId}{k:IntKind}{n:Nat}{cs:List Value}{x:DataW H × List MemPlace}(ht:P.underlying t=some (.int k))(h:DataW.trod ai P W base sp held n t cs=some x):∃i,cs=[.int k i]/\(Lit.int k i).wf=true/\x=(.lit (.int k i),[]):=by
 cases n with
 |zero=>simp[DataW.trod]at h
 |succ n=>
  unfold DataW.trod at h;simp only[ht]at h;split at h<;>first
   |(
    rename_i k0 k' i e1 e2;cases e1;split at h
    ·rename_i hc
     obtain⟨rfl,hw⟩:=hc;exact⟨_,rfl,hw,by simpa using h.symm⟩
    ·cases h)
   |(simp_all;done)
theorem aiZ{t:TypeId}{n:Nat}{cs:List Value}{x:DataW H × List MemPlace}(ht:P.underlying t=some .string)(h:DataW.trod ai P W base sp held n t cs=some x):∃s:ByteArray,cs=[.string s]/\s.size<9223372036854775808/\x=(.lit (.string s.data.toList),[]):=by
 cases n with
 |zero=>simp[DataW.trod]at h
 |succ n=>
  unfold DataW.trod at h;simp only[ht]at h;split at h<;>first
   |(
    rename_i s e2 _;split at h
    ·rename_i hc
     refine⟨_,rfl, ?_,by simpa using h.symm⟩;unfold maxLen at hc;omega
    ·cases h)
   |(simp_all;done)
end
end
section
theorem H8{α β:Type}{f:α->Option β}:∀{l:List α}{m:List β},l.mapM f=some m->m.length=l.length/\∀(i:Nat)(a:α),l[i]? =some a->∃b,f a=some b/\m[i]? =some b
 |[],m,h=>by simp at h;subst h;simp
 |a::l,m,h=>by
  rw[Hc]at h;cases hf:f a with
  |none=>simp[hf]at h
  |some b=>
   cases hl:l.mapM f with
   |none=>simp[hf,hl]at h
   |some r=>
    simp[hf,hl]at h;subst h;obtain⟨h1,h2⟩:=H8 hl;refine⟨by simp[h1],fun i x hx=>?_⟩;cases i with
    |zero=>simp at hx;subst hx;exact⟨b,hf,rfl⟩
    |succ i=>simpa using h2 i x (by simpa using hx)
section
variable{H:Type}{ai:TypeId × Value->H}{P:Program}{W:World}{base:Nat}{sp:Nat->Bool}{held:Bool}
theorem abK{a:Addr}{n:Nat}{cs:List Value}(h:W.cells? base a n=some cs):cs.length=n/\∀(i:Nat)(v:Value),cs[i]? =some v->W.cell? (a.add i)=some v:=by
 unfold World.cells? at h;split at h;case isFalse=>cases h
 obtain⟨h1,h2⟩:=H8 h;have hl:cs.length=n:=by simpa using h1
 refine⟨hl,fun i v hv=>?_⟩;have hi:i<n:=by rw[<-hl];exact(fI.1 hv).1
 obtain⟨b,h3,h4⟩:=h2 i i (by rw[Fl hi]);rw[hv]at h4;cases h4;exact h3
theorem apB{a:Addr}{i:Nat}{v:Value}(h:W.cell? (a.add i)=some v):W.cell? ⟨a.block,a.off+i,none⟩=some v:=by
 unfold Addr.add at h;split at h
 ·rename_i e
  subst e;unfold World.cell? at h⊢;split at h
  ·rename_i hb
   simp only[hb];split at h;·cases h
   ·simpa using h
  ·cases h
 ·simpa using h
theorem ai0{α:Type}{f:α->List AV}{R:α->Prop}{t e:TypeId}{sz n:Nat}{cs:List Value}{x:DataW H × List MemPlace}(ht:P.underlying t=some (.slice e))(ky:P.cellsOf e=sz)(h0:sz≠0)
 (hel:∀cs y,DataW.trod ai P W base sp held (n -1) e cs=some y->∃d,R d/\zy W (f d) cs) (h:DataW.trod ai P W base sp held n t cs=some x):
 ∃(l:List α)(v:Value),cs=[v]/\l.length<9223372036854775808/\(∀d∈l,R d)/\RVd W (iA sz (l.map f)) v:=by
 cases n with
 |zero=>simp[DataW.trod]at h
 |succ n=>
  unfold DataW.trod at h;simp only[ht]at h;split at h;all_goals first|(simp_all;done)|skip
  ·rename_i e' e1 _
   refine⟨[],_,rfl,by simp,by simp,fun mu lk=>?_⟩;simpa[iA]using RV.emp (w:=W) (mu:=mu) (hw:=QT W) (lk:=lk) 1 none 0
  ·rename_i _cs e' a len cap e1
   cases e1;split at h;case isFalse=>cases h
   rename_i hc;obtain⟨_,hle,atP⟩:=hc;rw[KL]at h;obtain⟨elems,he,aix⟩:=h;clear aix;obtain⟨h1,h2⟩:=H8 he;have hlen:elems.length=len:=by simpa using h1
   have each:∀i,i<len->∃d,R d/\∃Vt,Vt.length=sz/\(∀(j:Nat)(v:Value),Vt[j]? =some v->W.cell? ⟨a.block,a.off+(i*sz+j),none⟩=some v)/\zy W (f d) Vt:=by
    intro i hi;obtain⟨y,h3,_⟩:=h2 i i (by rw[Fl hi]);rw[KL]at h3;obtain⟨Vt,h4,h5⟩:=h3;rw[ky]at h4;obtain⟨h6,h7⟩:=abK h4;obtain⟨d,hd,hr⟩:=hel Vt y h5;refine⟨d,hd,Vt,h6,fun j v hv=>?_,hr⟩;have:=h7 j v hv;have e2:(a.add (i*sz)).add j=a.add (i*sz+j):=by unfold Addr.add;by_cases z1:i*sz=0<;>by_cases z2:j=0<;>simp[z1,z2,pv]
    rw[e2]at this;exact apB this
   obtain⟨l,P6,hl2⟩:∃l:List α,l.length=len/\∀(i:Nat)(d:α),l[i]? =some d->R d/\∃Vt,Vt.length=sz/\(∀(j:Nat)(v:Value),Vt[j]? =some v->W.cell? ⟨a.block,a.off+(i*sz+j),none⟩=some v)/\zy W (f d) Vt:=by
    clear he h1 h2 hlen hle atP;induction len with
    |zero=>exact⟨[],rfl,by simp⟩
    |succ len ih=>
     obtain⟨l,h1,h2⟩:=ih fun i hi=>each i (by omega);obtain⟨d,h3⟩:=each len (by omega);refine⟨l++[d],by simp[h1],fun i d' hd=>?_⟩;rcases iI i l.length with cV|G2
     ·rw[kP cV]at hd
      exact h2 i d' hd
     ·rw[oR G2]at hd
      have:i=len:=by have:=(fI.1 hd).1;simp at this;omega
      subst this;simp[h1]at hd;subst hd;exact h3
   refine⟨l,_,rfl,by unfold maxLen at atP;omega,fun d hd=>?_,fun mu lk=>?_⟩
   ·obtain⟨i,hi⟩:=zV hd
    exact(hl2 i d hi).1
   ·cases adi:l with
    |nil=>
     rw[adi]at P6;have:len=0:=by simpa using P6.symm
     subst this;simpa[iA]using RV.emp (w:=W) (mu:=mu) (hw:=QT W) (lk:=lk) 1 (some a) cap
    |cons d0 r0=>
     rw[<-adi];have nV:iA sz (l.map f)=.sl .none sz (l.map f):=by rw[adi];rfl
     rw[nV];have vG:a.spot=none:=by
      obtain⟨_,Vt,q1,_,_⟩:=hl2 0 d0 (by rw[adi];rfl);obtain⟨y,h3,_⟩:=h2 0 0 (by rw[Fl (by rw[<-P6,adi];simp)]);rw[KL]at h3;obtain⟨aw6,h4,_⟩:=h3;rw[ky]at h4;obtain⟨h6,h7⟩:=abK h4;cases hq:aw6 with
      |nil=>rw[hq]at h6;simp at h6;omega
      |cons v r=>
       have:=h7 0 v (by rw[hq];rfl);simp only[Nat.zero_mul]at this;have e3:(a.add 0).add 0=a:=by simp[Addr.add]
       rw[e3]at this;unfold World.cell? at this;split at this
       ·split at this
        ·cases this
        ·rename_i hs;simpa using hs
       ·cases this
     have ha:a=⟨a.block,a.off,none⟩:=by cases a;simp at vG;simp[vG]
     rw[ha];have key:∀(i:Nat)(Vt:List AV)(j:Nat)(v:AV),(l.map f)[i]? =some Vt->Vt[j]? =some v->∃y,W.cell? ⟨a.block,a.off+(i*sz+j),none⟩=some y/\RVd W v y/\nf v=true:=by intro i Vt j v hi hj;simp only[gx,cx]at hi;obtain⟨d,hd,rfl⟩:=hi;obtain⟨_,Vt,q1,q2,q3⟩:=hl2 i d hd;obtain⟨y,hy,hr,hn⟩:=q3.2 j v hj;exact⟨y,q2 j y hy,hr,hn⟩
     refine .sl .none sz (l.map f) a.block a.off len cap (fun i j=>(W.cell? ⟨a.block,a.off+(i*sz+j),none⟩).getD (.bool false)) ⟨by simp[P6],hle,h0⟩ (by simp) (by simp) (by simp) (fun i Vt hi=>?_) (fun i Vt j v hi hj=>?_) fun i Vt j v hi hj=>?_
     ·simp only[gx,cx]at hi
      obtain⟨d,hd,rfl⟩:=hi;obtain⟨_,Vt,q1,q2,q3⟩:=hl2 i d hd;rw[q3.1,q1]
     ·obtain⟨y,k1,k2,k3⟩:=key i Vt j v hi hj
      refine⟨k3, ?_, ?_⟩
      ·have:=Xy k1
       rw[<-pv]at this;exact this
      ·rw[k1,pv,k1];rfl
     ·obtain⟨y,k1,k2,k3⟩:=key i Vt j v hi hj
      rw[k1];exact k2 mu lk
theorem vk{t:TypeId}{fs:Array Field}{n:Nat}{cs:List Value}{x:DataW H × List MemPlace}(ht:P.underlying t=some (.struct fs))(h:DataW.trod ai P W base sp held n t cs=some x):
 cs.length=P.cellsOf t/\∀(i:Nat)(f:Field),fs[i]? =some f->∃y,DataW.trod ai P W base sp held (n -1) f.type ((cs.drop f.offset).take (P.cellsOf f.type))=some y:=by
 cases n with
 |zero=>simp[DataW.trod]at h
 |succ n=>
  unfold DataW.trod at h;simp only[ht]at h;split at h;case isFalse=>cases h
  rename_i hc;simp only[cx]at h;obtain⟨ys,h1,_⟩:=h;obtain⟨_,h2⟩:=H8 h1;refine⟨hc,fun i f hf=>?_⟩;obtain⟨y,h3,_⟩:=h2 i f (by simpa using hf);exact⟨y,h3⟩
theorem TU{t e:TypeId}{m n:Nat}{cs:List Value}{x:DataW H × List MemPlace}(ht:P.underlying t=some (.array m e))(he:P.underlying e=some (.int .u8))(ky:P.cellsOf e=1)(py:P.cellsOf t=m)(h:DataW.trod ai P W base sp held n t cs=some x):
 ∃l:List UInt8,l.length=m/\zy W (aK l) cs:=by
 cases n with
 |zero=>simp[DataW.trod]at h
 |succ n=>
  unfold DataW.trod at h;simp only[ht]at h;split at h;case isFalse=>cases h
  rename_i hc;rw[py]at hc;simp only[cx]at h;obtain⟨ys,h1,_⟩:=h;obtain⟨_,h2⟩:=H8 h1;have each:∀i,i<m->∃k:Int,cs[i]? =some (.int .u8 k)/\0<=k/\k<=255:=by
   intro i hi;obtain⟨y,h3,_⟩:=h2 i i (by rw[Fl hi]);rw[ky,BI]at h3;obtain⟨k,h4,h5,_⟩:=ad2 he h3;have h6:cs[i]? =some (.int .u8 k):=by
    have:((cs.drop i).take 1)[0]? =some (Value.int .u8 k):=by rw[h4];rfl
    simpa using this
   refine⟨k,h6, ?_⟩;simpa[Lit.wf,IntKind.min,IntKind.max,IntKind.signed,IntKind.bits]using h5
  refine⟨(List.range m).map fun i=>match cs[i]? with|some (Value.int .u8 k)=>UInt8.ofNat k.toNat|_=>0,by simp, ?_,fun j a hj=>?_⟩;·simp[hc]
  ·simp only[aK,gx,cx]at hj
   obtain⟨b,⟨i,hi,rfl⟩,rfl⟩:=hj;have QU:j<m:=by
    rcases iI j m with h|h;·exact h
    ·rw[kR (by simpa using h)]at hi;cases hi
   rw[Fl QU]at hi;cases hi;obtain⟨k,h6,h7,h8⟩:=each j QU;refine⟨.int .u8 k,h6, ?_,rfl⟩;simp only[h6,gy];have:((UInt8.ofNat k.toNat).toNat:Int)=k:=by
    have h9:k.toNat<256:=by omega
    have h10:(UInt8.ofNat k.toNat).toNat=k.toNat:=UInt8.toNat_ofNat_of_lt h9;rw[h10];omega
   rw[this];exact fun mu lk=>.int _ _
end
theorem CO.flag{v:AV}(h:CO v){lv:aa3}{ti:Id->TI}{x:Value}:cU lv ti v x:=by
 have h1:=h.plr;have h2:=h.atn;have h3:=h.aS;cases v with
 |sl r sz es=>cases r<;>first|trivial|(simp[am.aS]at h3)
 |cT vs=>simp[bu]at h2
 |_=>trivial
theorem aw7{W:World}(hg:Glb W (QT W)):Inv W.heap.size (fun _=>False) [] [] W (fun _=>none) (QT W) (fun _=>⟨0,0,0,0⟩):=by
 refine⟨fun i bx b h=>by simp at h,fun i cs bt l b h=>by simp at h,fun i j b h=>by simp at h,fun i b h=>by simp at h,fun b hb=>?_,fun id L h=>?_,fun id mo L L' h=>?_,fun b h=>h.elim,eJ _,hg⟩
 ·unfold QT
  rw[yh hb]
 ·cases id<;>simp[ba]at h
 ·cases id<;>simp[ba]at h
theorem agz{P:Program}{ax:FuncId->Option KF}{nk:NK}(hm:P.follows .mixedOrders=true)(hN:Cw P)(hpr:LN P nk)(aaD:∀f k,ax f=some k->∃fn,P.funcs[f]? =some fn/\dw P fn k)
 {f:FuncId} {avs:List AV} (h:DF ax nk f avs []=some (.bool true,[])) {W:World} (hg:Glb W (QT W)) {args:Array Value} (hd:∀a∈avs,CO a) (hl:avs.length=args.size) (ha:∀(j:Nat)(a:AV),avs[j]? =some a->∃v,args[j]? =some v/\RVd W a v):
 Calls P f args W fun e w'=>e=.returned (.bool true)/\Below W.heap.size W w':=by
 obtain⟨n,hn⟩:=(JJ _).1 h;have I:=aw7 hg;obtain⟨_,hc⟩:=ac_ hm hN hpr aaD n f avs [] _ _ hn W.heap.size (fun _=>False) W (fun _=>none) (QT W) (fun _=>⟨0,0,0,0⟩) args I hl (fun j a hj=>by obtain⟨v,hv,hr⟩:=ha j a hj;exact⟨v,hv,hr _ _,(hd a (eT hj)).flag⟩);refine hc.mono fun e w' A=>?_;obtain⟨v,rfl,mu',hw',ti',_,ext,_,rv,_⟩:=A;refine⟨?_,ext.Ot.toBelow⟩;have e:(aT [] (AV.bool true)).1=.bool true:=rfl;rw[e]at rv;cases rv;rfl
end
section
structure aX.Of(v:aX):Prop where
 k0: -9223372036854775808<=v.kind
 k1:v.kind<9223372036854775808
 n0: -9223372036854775808<=v.n
 n1:v.n<9223372036854775808
 s:v.s.length<9223372036854775808
 aU:v.aU.length<9223372036854775808
 name:∀x∈v.aU,x.length<9223372036854775808
 ids:v.ids.length<9223372036854775808
 id:∀x∈v.ids,0<=x/\x<18446744073709551616
 parts:v.parts.length<9223372036854775808
inductive aX.Wf:aX->Prop
 |mk (v:aX) (one:v.Of) (all:∀p∈v.parts,aX.Wf p):aX.Wf v
theorem aX.Wf.one{v:aX}(h:v.Wf):v.Of:=by cases h;assumption
theorem aX.Wf.all{v:aX}(h:v.Wf):∀p∈v.parts,aX.Wf p:=by cases h;assumption
theorem wf_i64{i:Int}(h:(Lit.int .i64 i).wf=true): -9223372036854775808<=i/\i<9223372036854775808:=by simp[Lit.wf,IntKind.min,IntKind.max,IntKind.signed,IntKind.bits]at h;omega
theorem wf_u64{i:Int}(h:(Lit.int .u64 i).wf=true):0<=i/\i<18446744073709551616:=by simp[Lit.wf,IntKind.min,IntKind.max,IntKind.signed,IntKind.bits]at h;omega
section
variable{H:Type}{ai:TypeId × Value->H}{W:World}{base:Nat}{sp:Nat->Bool}{held:Bool}
theorem UQ{W:World}{a:AV}{v:Value}{cs:List Value}{o:Nat}(h:(cs.drop o).take 1=[v])(hr:RVd W a v)(hn:nf a=true):zy W [a] ((cs.drop o).take 1):=by rw[h];exact .cons hr hn .nil
theorem ajH(sz:Nat)(l:List (List AV)):nf (iA sz l)=true:=by cases l<;>rfl
theorem ajI{W:World}(k:IntKind)(i:Int):RVd W (.int k i) (.int k i):=fun _ _=>.int k i
theorem ajJ{W:World}(s:ByteArray):RVd W (.str s.data.toList) (.string s):=fun _ _=>.str s
theorem qH{t:TypeId}{k:IntKind}{n:Nat}{cs:List Value}{o:Nat}{y:DataW H × List MemPlace}(ht:Tryz.prog.underlying t=some (.int k))(h:DataW.trod ai Tryz.prog W base sp held n t ((cs.drop o).take (Tryz.prog.cellsOf t))=some y)(h1:Tryz.prog.cellsOf t=1):
 ∃i:Int,(Lit.int k i).wf=true/\zy W [.int k i] ((cs.drop o).take 1):=by
 obtain⟨i,h2,h3,_⟩:=ad2 ht h;rw[h1]at h2;exact⟨i,h3,UQ h2 (ajI k i) rfl⟩
theorem JQ{t:TypeId}{n:Nat}{cs:List Value}{o:Nat}{y:DataW H × List MemPlace}(ht:Tryz.prog.underlying t=some .string)(h:DataW.trod ai Tryz.prog W base sp held n t ((cs.drop o).take (Tryz.prog.cellsOf t))=some y)(h1:Tryz.prog.cellsOf t=1):
 ∃s:bq,s.length<9223372036854775808/\zy W [.str s] ((cs.drop o).take 1):=by
 obtain⟨s,h2,h3,_⟩:=aiZ ht h;rw[h1]at h2;exact⟨s.data.toList,by simpa using h3,UQ h2 (ajJ s) rfl⟩
theorem mb{α:Type}{f:α->List AV}{R:α->Prop}{t e:TypeId}{sz n:Nat}{cs:List Value}{o:Nat}{y:DataW H × List MemPlace}(ht:Tryz.prog.underlying t=some (.slice e))(ky:Tryz.prog.cellsOf e=sz)(h0:sz≠0)
 (hel:∀cs y,DataW.trod ai Tryz.prog W base sp held (n -1) e cs=some y->∃d,R d/\zy W (f d) cs) (h:DataW.trod ai Tryz.prog W base sp held n t ((cs.drop o).take (Tryz.prog.cellsOf t))=some y) (h1:Tryz.prog.cellsOf t=1):
 ∃l:List α,l.length<9223372036854775808/\(∀d∈l,R d)/\zy W [iA sz (l.map f)] ((cs.drop o).take 1):=by
 obtain⟨l,v,h2,h3,h4,h5⟩:=ai0 ht ky h0 hel h;rw[h1]at h2;exact⟨l,h3,h4,UQ h2 h5 (ajH _ _)⟩
theorem ajF:∀(n:Nat)(cs:List Value)(y:DataW H × List MemPlace),DataW.trod ai Tryz.prog W base sp held n 9 cs=some y->∃s:bq,s.length<9223372036854775808/\zy W [.str s] cs:=by intro n cs y h;obtain⟨s,h2,h3,_⟩:=aiZ (P:=Tryz.prog) Tryz.underlying9 h;subst h2;exact⟨s.data.toList,by simpa using h3,.cons (ajJ s) rfl .nil⟩
theorem apZ:∀(n:Nat)(cs:List Value)(y:DataW H × List MemPlace),DataW.trod ai Tryz.prog W base sp held n 26 cs=some y->∃i:Int,(0<=i/\i<18446744073709551616)/\zy W [.int .u64 i] cs:=by intro n cs y h;obtain⟨i,h2,h3,_⟩:=ad2 (P:=Tryz.prog) Tryz.underlying26 h;subst h2;exact⟨i,wf_u64 h3,.cons (ajI _ i) rfl .nil⟩
theorem Px:Tryz.prog.cellsOf 3=1:=by kernel_rfl
theorem ZG:Tryz.prog.cellsOf 26=1:=by kernel_rfl
theorem Py:Tryz.prog.cellsOf 9=1:=by kernel_rfl
theorem afk:Tryz.prog.cellsOf 27=1:=by kernel_rfl
theorem al8:Tryz.prog.cellsOf 28=1:=by kernel_rfl
theorem al9:Tryz.prog.cellsOf 29=1:=by kernel_rfl
theorem ajG:Tryz.prog.cellsOf 25=1:=by kernel_rfl
theorem Mk:Tryz.prog.cellsOf 31=6:=by kernel_rfl
theorem afl:Tryz.prog.cellsOf 136=2:=by kernel_rfl
theorem rd_val:∀(n:Nat)(cs:List Value)(y:DataW H × List MemPlace),DataW.trod ai Tryz.prog W base sp held n 31 cs=some y->∃v:aX,v.Wf/\zy W v.ai cs:=by
 intro n;induction n using Nat.strongRecOn with
 |ind n ih=>
  intro cs y h;cases n with
  |zero=>simp[DataW.trod]at h
  |succ n=>
   obtain⟨hl,hf⟩:=vk (P:=Tryz.prog) Tryz.underlying31 h;rw[Mk]at hl;obtain⟨y0,h0⟩:=hf 0 _ rfl;obtain⟨y1,h1⟩:=hf 1 _ rfl;obtain⟨y2,h2⟩:=hf 2 _ rfl;obtain⟨y3,h3⟩:=hf 3 _ rfl;obtain⟨y4,h4⟩:=hf 4 _ rfl;obtain⟨y5,h5⟩:=hf 5 _ rfl;obtain⟨k,w0,r0⟩:=qH Tryz.underlying3 h0 Px;obtain⟨m,w1,r1⟩:=qH Tryz.underlying3 h1 Px;obtain⟨s,w2,r2⟩:=JQ Tryz.underlying9 h2 Py;obtain⟨ns,b3,a3,r3⟩:=mb (f:=fun s:bq=>[AV.str s]) Tryz.underlying27 Py (by decide) (ajF _) h3 afk;obtain⟨is,b4,a4,r4⟩:=mb (f:=fun i:Int=>[AV.int .u64 i]) Tryz.underlying28 ZG (by decide) (apZ _) h4 al8;obtain⟨ps,b5,a5,r5⟩:=mb (f:=aX.ai) Tryz.underlying29 Mk (by decide) (ih (n+1 -1 -1) (by omega)) h5 al9;refine⟨.mk k m s ns is ps,.mk _ ⟨(wf_i64 w0).1,(wf_i64 w0).2,(wf_i64 w1).1,(wf_i64 w1).2,w2,b3,a3,b4,a4,b5⟩ a5, ?_⟩;rw[aX.fA];have:=(r0.part (o:=0) (n:=1) rfl (r1.part rfl (r2.part rfl (r3.part rfl (r4.part rfl (r5.part rfl (.end_ (o:=6) hl)))))));simpa[aX.kind,aX.n,aX.s,aX.aU,aX.ids,aX.parts,cw,jn,lU]using this
theorem al7:∀(n:Nat)(cs:List Value)(y:DataW H × List MemPlace),DataW.trod ai Tryz.prog W base sp held n 136 cs=some y->∃v:dK,(v.name.length<9223372036854775808/\0<=v.id/\v.id<18446744073709551616)/\zy W v.ai cs:=by intro n cs y h;obtain⟨hl,hf⟩:=vk (P:=Tryz.prog) Tryz.underlying136 h;rw[afl]at hl;obtain⟨y0,h0⟩:=hf 0 _ rfl;obtain⟨y1,h1⟩:=hf 1 _ rfl;obtain⟨s,b,r0⟩:=JQ Tryz.underlying9 h0 Py;obtain⟨i,w1,r1⟩:=qH Tryz.underlying26 h1 ZG;refine⟨⟨s,i⟩,⟨b,wf_u64 w1⟩, ?_⟩;have:=(r0.part (o:=0) (n:=1) rfl (r1.part rfl (.end_ (o:=2) hl)));simpa[dK.ai]using this
end
end
section
@[simp]abbrev q_F(o s:Nat):KP:=.fad o (.t s)
@[simp]abbrev q_L(s:Nat):KP:=.aog (.t s)
@[simp]abbrev q_S(s:Nat):KP:=.aof (.t s)
@[simp]abbrev q_N(s:Nat):KP:=.aoe (.t s)
@[simp]abbrev q_B(o:BinOp)(x y:Nat):KP:=.Ta o (.t x) (.t y)
@[simp]abbrev q_I(o:BinOp)(x:Nat)(n:Int):KP:=.Ta o (.t x) (.c (.int .i64 n))
@[simp]abbrev q_X(z x i:Nat):KP:=.ixL z (.t x) (.t i)
@[simp]abbrev q_T(s i:Nat):KP:=.ext (.t s) i
@[simp]abbrev q_P(c a:Nat):KP:=.pick (.t c) (.t a) (.c (.bool false))
@[simp]abbrev q_Q(c a:Nat):KP:=.pick (.t c) (.c (.bool true)) (.t a)
@[simp]abbrev q_U(s:Nat):KP:=.un .not (.t s)
@[simp]abbrev q_W(k:IntKind)(s:Nat):KP:=.cvI k (.t s)
@[simp]abbrev q_C(v:AV):KP:=.mov (.c v)
@[simp]abbrev q_E(o:BinOp)(l:List TypeId)(s:Nat):KP:=.Hq o (.iL l) true (.t s) (.c .bP)
@[simp]abbrev q_l(s:Nat):JZ:=.load .cell (.t s)
@[simp]abbrev ao6(n s:Nat):JZ:=.load (.agg n) (.t s)
@[simp]abbrev q_h(f:FuncId)(l:List KV):JZ:=.call (.c (.fn f [] [])) l
@[simp]abbrev q_g(f:FuncId)(l:List Nat):JZ:=.call (.c (.fn f [] [])) (l.map .t)
@[simp]abbrev q_s(n x y:Nat):JZ:=.store n (.t x) (.t y)
@[simp]abbrev q_a(n x y:Nat):JZ:=.app n (.t x) (.t y)
@[simp]abbrev q_b(n x:Nat):JZ:=.box n (.t x)
@[simp]abbrev aC(d o s:Nat):KO:=⟨some d,none,.p (.fad o (.t s))⟩
@[simp]abbrev av(d s:Nat):KO:=⟨some d,none,.load .cell (.t s)⟩
@[simp]abbrev me(o:KO)(a b:Nat):KD:=⟨o,true,a,b⟩
@[simp]abbrev aA(o:KO)(a b:Nat):KD:=⟨o,false,a,b⟩
@[simp]abbrev aq(l:List KO)(r:KC):KC:=.seq (.ops l) r
@[simp]abbrev bC(l:List Nat):KC:=.aN l .ret
@[simp]abbrev bh(x:Nat)(a:KC):KC:=.cond (.t x) a .skip
@[simp]abbrev dd(n x y:Nat):KO:=q_e (q_s n x y)
@[simp]abbrev VF(d g:Nat)(o:BinOp)(x y:Nat):KO:=G4 d g (q_B o x y)
@[simp]abbrev eA(d g:Nat)(o s:Nat):KO:=G4 d g (q_F o s)
@[simp]abbrev mB(d g:Nat)(o:BinOp)(x:Nat)(n:Int):KO:=G4 d g (q_I o x n)
@[simp]abbrev xE(d g:Nat)(s:Nat):KO:=G4 d g (q_L s)
@[simp]abbrev zq(d g:Nat)(c a:Nat):KO:=G4 d g (q_P c a)
@[simp]abbrev FR(d g:Nat)(s:Nat):KO:=G4 d g (q_U s)
@[simp]abbrev bm(d:Nat)(z:List AV):KO:=JL d (.alloc z)
@[simp]abbrev ee(d:Nat)(z:Nat)(y:List AV)(n:Nat)(l:List (Nat × KV)):KO:=JL d (.bsl z y n l)
@[simp]abbrev jj(d:Nat)(n x y:Nat):KO:=JL d (q_a n x y)
@[simp]abbrev dp(d:Nat)(n x:Nat):KO:=JL d (q_b n x)
@[simp]abbrev aZ(d:Nat)(f:FuncId)(l:List Nat):KO:=JL d (q_g f l)
@[simp]abbrev gw(d:Nat)(f:FuncId)(l:List KV):KO:=JL d (q_h f l)
@[simp]abbrev a_(d:Nat)(n s:Nat):KO:=JL d (ao6 n s)
@[simp]abbrev ch(d:Nat)(o:BinOp)(x y:KV):KO:=uC d (.Ta o x y)
@[simp]abbrev oS(d:Nat)(o:BinOp)(x y:KV):KO:=uC d (.Tb o x y)
@[simp]abbrev gF(d:Nat)(z:List AV)(l:List (Nat × Nat × KV)):KO:=uC d (.bld z l)
@[simp]abbrev fS(d:Nat)(n z:Nat)(x i:KV):KO:=uC d (.ixA n z x i)
@[simp]abbrev jv(d:Nat)(z:Nat)(x i:KV):KO:=uC d (.ixL z x i)
@[simp]abbrev pD(d:Nat)(t:TypeId)(x:KV):KO:=uC d (.mki t x)
@[simp]abbrev tJ(d:Nat)(n z:Nat)(x:KV)(a b:Option KV):KO:=uC d (.slA n z x a b)
@[simp]abbrev bp(d:Nat)(o:BinOp)(x y:Nat):KO:=uC d (q_B o x y)
@[simp]abbrev au(d:Nat)(v:AV):KO:=uC d (q_C v)
@[simp]abbrev CJ(d:Nat)(o:BinOp)(l:List TypeId)(s:Nat):KO:=uC d (q_E o l s)
@[simp]abbrev aQ(d:Nat)(o:BinOp)(x:Nat)(n:Int):KO:=uC d (q_I o x n)
@[simp]abbrev bV(d:Nat)(s:Nat):KO:=uC d (q_L s)
@[simp]abbrev pg(d:Nat)(s:Nat):KO:=uC d (q_N s)
@[simp]abbrev bY(d:Nat)(c a:Nat):KO:=uC d (q_P c a)
@[simp]abbrev eS(d:Nat)(c a:Nat):KO:=uC d (q_Q c a)
@[simp]abbrev kT(d:Nat)(s i:Nat):KO:=uC d (q_T s i)
@[simp]abbrev kQ(d:Nat)(s:Nat):KO:=uC d (q_U s)
@[simp]abbrev jw(d:Nat)(k:IntKind)(s:Nat):KO:=uC d (q_W k s)
@[simp]abbrev da(d:Nat)(z x i:Nat):KO:=uC d (q_X z x i)
@[simp]abbrev oT(d g:Nat)(o:BinOp)(x y:KV):KO:=vb d g (.Ta o x y)
@[simp]abbrev qA(d g:Nat)(o:BinOp)(x y:KV):KO:=vb d g (.Tb o x y)
@[simp]abbrev OL(d g:Nat)(o:BinOp)(x y:Nat):KO:=vb d g (q_B o x y)
@[simp]abbrev bR(d g:Nat)(o s:Nat):KO:=vb d g (q_F o s)
@[simp]abbrev lO(d g:Nat)(o:BinOp)(x:Nat)(n:Int):KO:=vb d g (q_I o x n)
@[simp]abbrev zr(d g:Nat)(s:Nat):KO:=vb d g (q_L s)
@[simp]abbrev CK(d g:Nat)(s:Nat):KO:=vb d g (q_U s)
@[simp]abbrev gG(d g:Nat)(f:FuncId)(l:List Nat):KO:=q_u d g (q_g f l)
@[simp]abbrev cI(d g:Nat)(s:Nat):KO:=q_u d g (q_l s)
@[simp]abbrev eC(d g:Nat)(n s:Nat):KO:=q_u d g (ao6 n s)
@[simp]abbrev uF(d g:Nat)(f:FuncId)(l:List Nat):KO:=q_v d g (q_g f l)
@[simp]abbrev g6(d g:Nat)(s:Nat):KO:=q_v d g (q_l s)
@[simp]abbrev mv(d g:Nat)(n s:Nat):KO:=q_v d g (ao6 n s)
theorem dF{P:Program}{f:Func}{k:KF}(h:(f.ntmps,decide (f.params.size<=k.nt),f.body.bind (iW P f.ntmps),f.results.toList.mapM (ah3 P))=(k.nt,true,some (aaz k.body),some k.res)):dw P f k:=by simp only[g_,decide_eq_true_eq]at h;exact h
section
variable(ax:FuncId->Option KF)(f:FuncId)(c:KC)(r:List KR)
abbrev aii:Prop:=∀{nk:NK}(S:St),DF ax nk f [] S=yz f r S (DC ax nk c ⟨[],[],S.length⟩ S)
abbrev dT:Prop:=∀{nk:NK}(a:AV)(S:St),DF ax nk f [a] S=yz f r S (DC ax nk c ⟨[(0,a)],[],S.length⟩ S)
abbrev fK:Prop:=∀{nk:NK}(a b:AV)(S:St),DF ax nk f [a,b] S=yz f r S (DC ax nk c ⟨[(0,a),(1,b)],[],S.length⟩ S)
abbrev LP:Prop:=∀{nk:NK}(a b d:AV)(S:St),DF ax nk f [a,b,d] S=yz f r S (DC ax nk c ⟨[(0,a),(1,b),(2,d)],[],S.length⟩ S)
end
section
variable{ax:FuncId->Option KF}{f:FuncId}{n:Nat}{c:KC}{r:List KR}
theorem aeR(h:ax f=some ⟨n,c,r⟩)(g:0<=n):aii ax f c r:=fun S=>va (args:=[]) h g S
theorem bZ(h:ax f=some ⟨n,c,r⟩)(g:1<=n):dT ax f c r:=fun a S=>va (args:=[a]) h g S
theorem db(h:ax f=some ⟨n,c,r⟩)(g:2<=n):fK ax f c r:=fun a b S=>va (args:=[a,b]) h g S
theorem Bj(h:ax f=some ⟨n,c,r⟩)(g:3<=n):LP ax f c r:=fun a b d S=>va (args:=[a,b,d]) h g S
end
end
def bl:List UInt8->List UInt8->Bool
 |_,[]=>false
 |[],_::_=>true
 |a::x,b::y=>if a=b then bl x y else decide (a<b)
theorem JV:∀x,bl x x=false
 |[]=>rfl
 |a::x=>by simp[bl,JV x]
theorem acq:∀x y z,bl x y=true->bl y z=true->bl x z=true
 |[],[],_,h,_=>by simp[bl]at h
 |[],_::_,[],_,k=>by simp[bl]at k
 |[],_::_,_::_,_,_=>rfl
 |_::_,[],_,h,_=>by simp[bl]at h
 |_::_,_::_,[],_,k=>by simp[bl]at k
 |a::x,b::y,c::z,h,k=>by
  have ih:=acq x y z;simp only[bl]at h k⊢;by_cases e1:a=b
  ·subst e1
   by_cases e2:a=c
   ·subst e2
    simp only[if_true]at h k⊢;exact ih h k
   ·simpa only[if_neg e2]using k
  ·by_cases e2:b=c
   ·subst e2
    simpa only[if_neg e1]using h
   ·simp only[if_neg e1,decide_eq_true_eq]at h
    simp only[if_neg e2,decide_eq_true_eq]at k;have h3:a<c:=UInt8.lt_trans h k;have e3:a≠c:=fun e=>by subst e;exact absurd h3 (by simp)
    simp[e3,h3]
theorem acr:∀x y,x≠y->bl x y=false->bl y x=true
 |[],[],h,_=>(h rfl).elim
 |[],_::_,_,k=>by simp[bl]at k
 |_::_,[],_,_=>rfl
 |a::x,b::y,h,k=>by
  have ih:=acr x y;simp only[bl]at k⊢;by_cases e:a=b
  ·subst e
   simp only[if_true]at k⊢;exact ih (fun e=>h (by rw[e])) k
  ·simp only[if_neg e,decide_eq_false_iff_not,YN]at k
   have e':b≠a:=fun e'=>e e'.symm;simp only[if_neg e',decide_eq_true_eq];exact UInt8.lt_of_le_of_ne k e'
theorem akf{x y:List UInt8}(h:bl x y=true):bl y x=false:=by
 cases k:bl y x;·rfl
 ·have:=acq x y x h k
  rw[JV]at this;cases this
def tu(x:UInt32)(n:Nat):UInt32:=UInt32.ofNat (x.toNat>>>n)
def j9(x:UInt32)(n:Nat):UInt32:=UInt32.ofNat ((x.toNat>>>n)|||(x.toNat<<<(32 -n)))
def beN:Nat->bq->Nat
 |n,[]=>n
 |n,c::r=>beN (n*256+c.toNat) r
def ZS(w:List UInt32)(i:Nat):UInt32:=
 w.getD (i -16) 0+(j9 (w.getD (i -15) 0) 7^^^j9 (w.getD (i -15) 0) 18^^^tu (w.getD (i -15) 0) 3)+w.getD (i -7) 0+(j9 (w.getD (i -2) 0) 17^^^j9 (w.getD (i -2) 0) 19^^^tu (w.getD (i -2) 0) 10)
def xr(b:bq)(i:Nat):UInt32:=UInt32.ofNat (beN 0 ((b.take (4*i+4)).drop (4*i)))
def uL(b:bq):Nat->List UInt32
 |0=>[]
 |i+1=>uL b i++[if i<16 then xr b i else ZS (uL b i) i]
structure V8 where
 a:UInt32
 b:UInt32
 c:UInt32
 d:UInt32
 e:UInt32
 f:UInt32
 g:UInt32
 h:UInt32
def V8.t(v:V8)(k w:UInt32):UInt32:=v.h+(j9 v.e 6^^^j9 v.e 11^^^j9 v.e 25)+(v.e&&&v.f^^^ ~~~v.e&&&v.g)+k+w
def V8.u(v:V8):UInt32:=(j9 v.a 2^^^j9 v.a 13^^^j9 v.a 22)+(v.a&&&v.b^^^v.a&&&v.c^^^v.b&&&v.c)
def V8.round(v:V8)(k w:UInt32):V8:=⟨v.t k w+v.u,v.a,v.b,v.c,v.d+v.t k w,v.e,v.f,v.g⟩
def V8.rounds(v:V8)(ks ws:List UInt32):Nat->V8
 |0=>v
 |i+1=>(v.rounds ks ws i).round (ks.getD i 0) (ws.getD i 0)
def V8.add(s v:V8):V8:=⟨s.a+v.a,s.b+v.b,s.c+v.c,s.d+v.d,s.e+v.e,s.f+v.f,s.g+v.g,s.h+v.h⟩
def V8.mix(s:V8)(ks:List UInt32)(b:bq):V8:=s.add (s.rounds ks (uL b 64) 64)
def ft:V8:=⟨1779033703,3144134277,1013904242,2773480762,1359893119,2600822924,528734635,1541459225⟩
def f_:List UInt32:=[1116352408,1899447441,3049323471,3921009573,961987163,1508970993,2453635748,2870763221,3624381080,310598401,607225278,1426881987,1925078388,2162078206,2614888103,3248222580,3835390401,4022224774,264347078,604807628,770255983,1249150122,1555081692,1996064986,2554220882,2821834349,2952996808,3210313671,3336571891,3584528711,113926993,338241895,666307205,773529912,1294757372,1396182291,1695183700,1986661051,2177026350,2456956037,2730485921,2820302411,3259730800,3345764771,3516065817,3600352804,4094571909,275423344,430227734,506948616,659060556,883997877,958139571,1322822218,1537002063,1747873779,1955562222,2024104815,2227730452,2361852424,2428436474,2756734187,3204031479,3329325298]
def vE:Nat->V8->bq->V8
 |0,v,_=>v
 |n+1,v,b=>vE n (v.mix f_ b) (b.drop 64)
def Fy:Nat->Nat->bq
 |0,_=>[]
 |k+1,n=>Fy k (n/256)++[UInt8.ofNat n]
def gC(n:Nat):bq:=128::(List.replicate ((119 -n %64)%64) 0++Fy 8 (8*n))
def V8.l(v:V8):List UInt32:=[v.a,v.b,v.c,v.d,v.e,v.f,v.g,v.h]
def V8.aW(v:V8):bq:=v.l.flatMap fun x=>Fy 4 x.toNat
def U9(v:V8)(l:bq)(n:Nat):bq:=(vE ((l++gC n).length/64) v (l++gC n)).aW
def Lw(args:List AV)(S:St):Option (AV × St):=match args with
 |[.int .i64 n,.int .i64 64,.int .i64 8]=>if 0<=n/\n<=1073741824 then some (.sl .none 1 ((gC n.toNat).map fun c=>[.int .u8 c.toNat]),S)else none
 |_=>none
abbrev amP:=List AV->St->Option (AV × St)
def aje:List (FuncId × amP):=[(127,Lw),(25,asP 69 62)]
def nk:NK:=⟨fun _=>false,fun f=>aje.lookup f⟩
@[simp]theorem avl(f:FuncId):nk.aN f=false:=rfl
def bI(n:Nat):bq:=if n<128 then[UInt8.ofNat n]else UInt8.ofNat (n %128+128)::bI (n/128)
termination_by n
decreasing_by omega
def pN:Nat->bq->Option (Nat × Nat)
 |_,[]=>none
 |i,c::r=>if 10<=i\/(i=9/\1<c.toNat)then none
  else if 128<=c.toNat then(pN (i+1) r).map fun x=>(c.toNat -128+128*x.1,x.2+1)
  else if c.toNat=0/\0<i then none else some (c.toNat,1)
theorem Zr:∀(s:bq)(i v k:Nat),pN i s=some (v,k)->1<=k/\k<=s.length/\i+k<=10
 |[],i,v,k,h=>by simp[pN]at h
 |c::r,i,v,k,h=>by
  unfold pN at h;split at h;·cases h
  ·rename_i h1
   split at h
   ·obtain⟨⟨v',k'⟩,h2,h3⟩:=cx.1 h
    have:=Zr r (i+1) v' k' h2;simp at h3⊢;omega
   ·split at h
    ·cases h
    ·simp at h⊢;omega
theorem abT:∀(s:bq)(i v k:Nat),pN i s=some (v,k)->i<=9/\v<128^(9 -i)*2
 |[],i,v,k,h=>by simp[pN]at h
 |c::r,i,v,k,h=>by
  unfold pN at h;split at h;·cases h
  ·rename_i h1
   have hi:i<=9:=by omega
   refine⟨hi, ?_⟩;split at h
   ·obtain⟨⟨v',k'⟩,h2,h3⟩:=cx.1 h
    obtain⟨a,b⟩:=abT r (i+1) v' k' h2;have e:9 -i=(9 -(i+1))+1:=by omega
    have hc:=c.toNat_lt;simp at h3;rw[e,Fv];omega
   ·split at h
    ·cases h
    ·rename_i h2 h3
     simp at h;by_cases e:i=9
     ·subst e
      simp;omega
     ·have:128^1<=128^(9 -i):=Xk (by decide) (by omega)
      omega
theorem afc:∀(d n:Nat),n<128^(d+1)->(bI n).length<=d+1
 |0,n,h=>by unfold bI;rw[if_pos (by simpa using h)];simp
 |d+1,n,h=>by
  unfold bI;split;·simp
  ·have:n/128<128^(d+1):=by rw[Fv]at h;omega
   have:=afc d (n/128) this;simp;omega
theorem eN{n:Nat}(h:n<18446744073709551616):(bI n).length<=10:=by
 have e:(128:Nat)^(9+1)=1180591620717411303424:=by decide
 exact afc 9 n (by omega)
theorem alV:∀(m n i:Nat)(r:bq),m=9 -i->i<=9->n<128^(9 -i)*2->(0<i->n≠0)->pN i (bI n++r)=some (n,(bI n).length):=by
 intro m;induction m with
 |zero=>
  intro n i r hm hi hn h0;have e:i=9:=by omega
  subst e;simp at hn;unfold bI;rw[if_pos (by omega)];have h1:(UInt8.ofNat n).toNat=n:=by rw[yA];omega
  have h2:¬(10<=9\/True/\1<n):=by rw[true_and];omega
  have h3:¬128<=n:=by omega
  have h4:¬(n=0/\0<9):=by have:=h0 (by decide);omega
  simp only[Fm,yu,pN,h1,List.length_singleton];rw[if_neg h2,if_neg h3,if_neg h4]
 |succ m ih=>
  intro n i r hm hi hn h0;unfold bI;split
  ·rename_i h
   have h1:(UInt8.ofNat n).toNat=n:=by rw[yA];omega
   have h2:¬(10<=i\/(i=9/\1<n)):=by omega
   have h3:¬128<=n:=by omega
   have h4:¬(n=0/\0<i):=by omega
   simp[pN,h1,h2,h3,h4]
  ·rename_i h
   have h1:(UInt8.ofNat (n %128+128)).toNat=n %128+128:=by rw[yA];omega
   have h2:¬(10<=i\/(i=9/\1<n %128+128)):=by omega
   have e:9 -i=(9 -(i+1))+1:=by omega
   rw[e,Fv]at hn;have hr:=ih (n/128) (i+1) r (by omega) (by omega) (by omega) (fun _=>by omega);simp only[Fm,pN,h1];rw[if_neg h2,if_pos (by omega),hr];simp;omega
theorem UF{n:Nat}(h:n<18446744073709551616)(r:bq):pN 0 (bI n++r)=some (n,(bI n).length):=by
 have e:(128:Nat)^(9 -0)*2=18446744073709551616:=by decide
 exact alV 9 n 0 r rfl (by decide) (by omega) (by omega)
theorem ajk{s:bq}{v k:Nat}(h:pN 0 s=some (v,k)):v<18446744073709551616:=by
 have:=(abT s 0 v k h).2;have e:(128:Nat)^(9 -0)*2=18446744073709551616:=by decide
 omega
structure Rd where
 b:bq
 at_:Nat
 err:Option (Nat × Nat)
namespace Rd
def left(r:Rd):bq:=r.b.drop r.at_
def fail(r:Rd)(c:Nat):Rd:=match r.err with
 |none=>{r with err:=some (c,r.at_)}
 |some _=>r
def go(r:Rd)(k:Nat):Rd:={r with at_:=r.at_+k}
def byte(r:Rd):Nat × Rd:=match r.err with
 |some _=>(0,r)
 |none=>match r.left with
  |[]=>(0,r.fail 2)
  |c::_=>(c.toNat,r.go 1)
def number(gM:Nat)(r:Rd):Nat × Rd:=match r.err with
 |some _=>(0,r)
 |none=>match pN 0 r.left with
  |none=>(0,r.fail 2)
  |some (n,k)=>if gM<n then(0,r.fail 15)else(n,r.go k)
def bool(r:Rd):Bool × Rd:=match r.err with
 |some _=>(false,r)
 |none=>match r.left with
  |[]=>(false,r.fail 2)
  |c::_=>if 1<c.toNat then(false,r.fail 2)else(decide (c.toNat=1),r.go 1)
def bytes(gM:Nat)(r:Rd):bq × Rd:=match r.err with
 |some _=>([],r)
 |none=>match pN 0 r.left with
  |none=>([],r.fail 2)
  |some (n,k)=>if gM<n then([],r.fail 3)else if r.left.length -k<n then([],r.fail 2)else((r.left.drop k).take n,r.go (k+n))
def raw(n:Nat)(r:Rd):bq × Rd:=match r.err with
 |some _=>([],r)
 |none=>if r.left.length<n then([],r.fail 2)else(r.left.take n,r.go n)
def Ok(r:Rd):Prop:=r.at_<=r.b.length/\∀c p,r.err=some (c,p)->c≠0/\c<16/\p<=r.b.length
end Rd
section
open Go.Lib
theorem Z0(s:List UInt8)(i:Nat):(⟨s.toArray⟩:ByteArray).get! i=s.getD i 0:=by show(s.toArray)[i]! =_;rw[List.getElem!_toArray,List.getElem!_eq_getElem?_getD,tE];rfl
theorem acs(s:List UInt8)(i:Nat):Utf8.decode ⟨s.toArray⟩ i=decodeN (s.length -i) (s.getD i 0).toNat (s.getD (i+1) 0).toNat (s.getD (i+2) 0).toNat (s.getD (i+3) 0).toNat:=by rw[decode_at,Z0,Z0,Z0,Z0];rfl
theorem ag6{s:List UInt8}{i:Nat}{b:UInt8}(h:s[i]? =some b)(hb:b.toNat<128):Utf8.decode ⟨s.toArray⟩ i=(b.toNat,1):=by
 rw[acs];have:s.getD i 0=b:=by simp[List.getD,h]
 rw[this];unfold decodeN;rw[if_pos hb]
theorem Z1{n b0 b1 b2 b3:Nat}(hb:128<=b0)(hn:1<=n):128<=(decodeN n b0 b1 b2 b3).1/\(decodeN n b0 b1 b2 b3).1<=1114111/\1<=(decodeN n b0 b1 b2 b3).2/\(decodeN n b0 b1 b2 b3).2<=n/\
 (2<=(decodeN n b0 b1 b2 b3).2->128<=b1)/\(3<=(decodeN n b0 b1 b2 b3).2->128<=b2)/\(4<=(decodeN n b0 b1 b2 b3).2->128<=b3)/\(decodeN n b0 b1 b2 b3).2<=4:=by
 unfold decodeN;rw[if_neg (by omega)];repeat' split
 all_goals refine⟨?_, ?_, ?_, ?_, ?_, ?_, ?_, ?_⟩<;>simp only<;>omega
theorem akg{s:List UInt8}{i:Nat}{b:UInt8}(h:s[i]? =some b)(hb:128<=b.toNat):
 128<=(Utf8.decode ⟨s.toArray⟩ i).1/\(Utf8.decode ⟨s.toArray⟩ i).1<=1114111/\1<=(Utf8.decode ⟨s.toArray⟩ i).2/\i+(Utf8.decode ⟨s.toArray⟩ i).2<=s.length/\∀k,1<=k->k<(Utf8.decode ⟨s.toArray⟩ i).2->∀c,s[i+k]? =some c->128<=c.toNat:=by
 have hi:=(fI.1 h).1;have h0:s.getD i 0=b:=by simp[List.getD,h]
 have:=Z1 (n:=s.length -i) (b0:=b.toNat) (b1:=(s.getD (i+1) 0).toNat) (b2:=(s.getD (i+2) 0).toNat) (b3:=(s.getD (i+3) 0).toNat) hb (by omega);rw[<-h0,<-acs]at this;obtain⟨a,b',c,d,e,f,g,j⟩:=this;refine⟨a,b',c,by omega,fun k hk1 hk2 x hx=>?_⟩;have kM:s.getD (i+k) 0=x:=by simp[List.getD,hx]
 have:k=1\/k=2\/k=3:=by omega
 rcases this with rfl|rfl|rfl;·rw[<-kM];exact e (by omega)
 ·rw[<-kM];exact f (by omega)
 ·rw[<-kM];exact g (by omega)
end
section
def g7(sz:Nat)(aW:AV)(aa:List (Option Nat))(es:List (List AV)):Prop:=
 (es=[]/\aW=.ah)\/aW=.sl .exact sz es\/∃k,aW=.sl (.fr k) sz es/\aa[k]? =some (some es.length)
theorem g7.more{sz:Nat}{aW:AV}{aa:List (Option Nat)}{es:List (List AV)}(h:g7 sz aW aa es)(t:List (Option Nat)):g7 sz aW (aa++t) es:=by
 rcases h with h|h|⟨k,h,h'⟩;·exact .inl h
 ·exact .inr (.inl h)
 ·exact .inr (.inr ⟨k,h,by rw[kP (fI.1 h').1];exact h'⟩)
theorem g7.apw{sz:Nat}{aW:AV}{aa:List (Option Nat)}{es:List (List AV)}(h:g7 sz aW aa es){xs:List (List AV)}(hx:xs≠[])(hl:es.length+xs.length<=1073741824){x:AV}{S:St}(he:bL S x=some (sz,xs)):
 ∃dH aG,cb sz aa S aW x=some (dH,aG,S)/\g7 sz dH aG (es++xs):=by
 have kM:¬xs.length=0:=by cases xs<;>simp at hx⊢
 have hb:¬(1073741824<es.length+xs.length):=by omega
 rcases h with⟨rfl,rfl⟩|rfl|⟨k,rfl,h'⟩
 ·have Cn:xs.length<=1073741824:=by simp at hl;exact hl
  refine⟨.sl (.fr aa.length) sz xs,aa++[some xs.length],by simp[cb,he,kM,Cn],.inr (.inr ⟨aa.length,by simp,by simp⟩)⟩
 ·refine⟨.sl (.fr aa.length) sz (es++xs),aa++[some (es.length+xs.length)],by simp[cb,he,kM,hb],.inr (.inr ⟨aa.length,rfl,by simp⟩)⟩
 ·have hk:=(fI.1 h').1
  refine⟨.sl (.fr k) sz (es++xs),aa.set k (some (es.length+xs.length)),by simp[cb,he,kM,hb,h'],.inr (.inr ⟨k,rfl,by simp[hk]⟩)⟩
theorem g7.app{sz:Nat}{aW:AV}{aa:List (Option Nat)}{es:List (List AV)}(h:g7 sz aW aa es){xs:List (List AV)}(hx:xs≠[])(hl:es.length+xs.length<=1073741824)(r:jQ)(S:St):
 ∃dH aG,cb sz aa S aW (.sl r sz xs)=some (dH,aG,S)/\g7 sz dH aG (es++xs):=h.apw hx hl rfl
theorem g7.axe{sz:Nat}{aW:AV}{aa:List (Option Nat)}{es:List (List AV)}(h:g7 sz aW aa es)(S:St)(x:AV)(hx:∃z,bL S x=some (z,[])):cb sz aa S aW x=some (aW,aa,S):=by obtain⟨z,hx⟩:=hx;rcases h with⟨rfl,rfl⟩|rfl|⟨k,rfl,h'⟩<;>simp[cb,hx]
theorem g7.alU{sz:Nat}{aW:AV}{aa:List (Option Nat)}{es:List (List AV)}(h:g7 sz aW aa es){xs:List (List AV)}(hl:es.length+xs.length<=1073741824){x:AV}{S:St}(he:∃z,bL S x=some (z,xs)/\(xs≠[]->z=sz)):
 ∃dH aG,cb sz aa S aW x=some (dH,aG,S)/\g7 sz dH aG (es++xs):=by
 obtain⟨z,he,hz⟩:=he;by_cases hx:xs=[]
 ·subst hx
  exact⟨aW,aa,h.axe S x ⟨z,he⟩,by simpa using h⟩
 ·obtain rfl:=hz hx
  exact h.apw hx hl he
section
variable{sz:Nat}{aW:AV}{aa:List (Option Nat)}{es:List (List AV)}(h:g7 sz aW aa es)
include h in
theorem g7.len:gj aW=some (.int .i64 es.length):=by rcases h with⟨rfl,rfl⟩|rfl|⟨k,rfl,h'⟩<;>rfl
include h in
theorem g7.ix(k:IntKind)(i:Nat)(hi:i<es.length):oa sz aW (.int k (i:Int))=(es[i]?).map fun cs=>.ec .none cs 0:=by
 have:¬(i:Int)<0:=by omega
 rcases h with⟨rfl,rfl⟩|rfl|⟨k,rfl,h'⟩;·simp at hi
 ·simp[oa,this,vW]
 ·simp[oa,this,vW]
include h in
theorem g7.aiC(S:St):bN S aW=some (aB aW):=by rcases h with⟨rfl,rfl⟩|rfl|⟨k,rfl,h'⟩<;>rfl
include h in
theorem g7.norm:norm (aB aW)=iA sz es:=by
 rcases h with⟨rfl,rfl⟩|rfl|⟨k,rfl,h'⟩;·rfl
 ·cases es<;>rfl
 ·cases es<;>rfl
include h in
theorem g7.lock(S:St):cg S aW=S:=by rcases h with⟨rfl,rfl⟩|rfl|⟨k,rfl,h'⟩<;>rfl
include h in
theorem g7.unlock(S S':St):bB S S' aW=S':=by rcases h with⟨rfl,rfl⟩|rfl|⟨k,rfl,h'⟩<;>rfl
include h in
theorem g7.nt:bu aW=true:=by rcases h with⟨rfl,rfl⟩|rfl|⟨k,rfl,h'⟩<;>rfl
include h in
theorem g7.nr:bD aW=aW:=by rcases h with⟨rfl,rfl⟩|rfl|⟨k,rfl,h'⟩<;>rfl
include h in
theorem g7.elems(S:St):∃z,bL S aW=some (z,es)/\(es≠[]->z=sz):=by
 rcases h with⟨rfl,rfl⟩|rfl|⟨k,rfl,h'⟩;·exact⟨0,rfl,fun h=>absurd rfl h⟩
 ·exact⟨sz,rfl,fun _=>rfl⟩
 ·exact⟨sz,rfl,fun _=>rfl⟩
end
def Wj(sz:Nat)(r:AV)(es:List (List AV)):Prop:=(es=[]/\r=.ah)\/r=.sl .exact sz es\/r=.sl .fresh sz es
theorem g7.res{sz:Nat}{aW:AV}{aa:List (Option Nat)}{es:List (List AV)}(h:g7 sz aW aa es)(hp:ct es=true):∃r aG,a9 aa (bD aW)=(r,aG)/\Wj sz r es/\aw r=true:=by
 rcases h with⟨rfl,rfl⟩|rfl|⟨k,rfl,h'⟩;·exact⟨.ah,aa,rfl,.inl ⟨rfl,rfl⟩,rfl⟩
 ·exact⟨.sl .exact sz es,aa,rfl,.inr (.inl rfl),hp⟩
 ·refine⟨.sl .fresh sz es,aa.set k none, ?_,.inr (.inr rfl),hp⟩
  show a9 aa (.sl (.fr k) sz es)=_;simp only[a9];rw[if_pos h']
theorem Wj.take{sz:Nat}{r:AV}{es:List (List AV)}(h:Wj sz r es)(aa:List (Option Nat)):∃aW t,aT aa r=(aW,aa++t)/\g7 sz aW (aa++t) es:=by
 rcases h with⟨rfl,rfl⟩|rfl|rfl;·exact⟨.ah,[],by simp[aT,cA],.inl ⟨rfl,rfl⟩⟩
 ·exact⟨.sl .exact sz es,[],by simp[aT,cA],.inr (.inl rfl)⟩
 ·exact⟨.sl (.fr aa.length) sz es,[some es.length],rfl,.inr (.inr ⟨aa.length,rfl,by simp⟩)⟩
end
section
section
variable{α:Type}(f:α->List AV)(sz:Nat)
variable{f sz}(hf:∀x,(f x).length=sz)
end
end
theorem alO:(Tryz.prog.info? 5).map (fun i=>(i.zero,i.size,i.bytes))=some (some (.int .u8 0),1,1):=by kernel_rfl
theorem atJ(n:Nat):Fy 8 n=(List.range 8).map fun j=>UInt8.ofNat (n/256^(7 -j)):=by simp[Fy,List.range_succ,adz]
set_option maxRecDepth 100000 in
set_option maxHeartbeats 4000000 in
theorem aiW(n:Nat)(hn:n<=1073741824)(w:World):
 Calls Tryz.prog 127 #[.int .i64 (n:Int),.int .i64 64,.int .i64 8] w fun ev w'=>∃v,ev=.returned v/\w'.ownsRow w.heap.size 5 1 v (gC n).length ((gC n).map fun c=>.int .u8 c.toNat)/\Below w.heap.size w w':=by
 obtain⟨i0,hi,hz0,hz1,hz2⟩:=info_parts alO;generalize hK:(119 -n %64)%64=K
 go_enter Tryz.func127,Tryz.ntmps127
 go_wp2
 go_loopw [7] (fun v wr=>∃(k g cap:Nat),k<=K/\v=.slice (some ⟨g,0,none⟩) (k+1) cap/\wr.ownsRow w.heap.size 5 1 v (k+1) (.int .u8 128::List.replicate k (.int .u8 0))/\Below w.heap.size w wr) (fun v _=>K+1 -(match v with|.slice _ l _=>l|_=>0))
 case atStart=>exact⟨0,w.heap.size,1,by omega,rfl,⟨rfl,.inr ⟨w.heap.size,1,#[.int .u8 128],rfl,eJ _,heap_alloc_new _ _,by omega,by unfold maxLen;omega,rfl,rfl⟩⟩,(Below.refl _ _).alloc (eJ _) _⟩
 case round=>
  obtain⟨k,g,cap,hk,rfl,MX,hb⟩:=hrel;obtain⟨v2,w2,hz8,atK,apx⟩:=HX (P:=Tryz.prog) wr w.heap.size 48 3 48 5 i0 (.int .u8 0) .i64 .i64 Tryz.underlying48 Tryz.underlying3 hi hz0 hz1 hz2 (zv:=.int .u8 0) rfl rfl _ (k+1) (by omega) _ MX 8 (by omega) (by omega) hb.size;obtain⟨g2,Y7,ad1,rfl,hg2,hh2,hc2,hm2,hs2,ht2⟩:∃g2 Y7 ad1,v2=.slice (some ⟨g2,0,none⟩) (k+1+8) Y7/\w.heap.size<=g2/\w2.heap[g2]? =some (.cells ad1 5 (0,0))/\k+1+8<=Y7/\Y7<=maxLen/\ad1.size=Y7/\ad1.toList.take (k+1+8)=.int .u8 128::List.replicate k (.int .u8 0)++List.replicate 8 (.int .u8 0):=by
   rcases atK.2 with⟨_,h⟩|⟨g2,Y7,ad1,h1,h2,h3,h4,h5,h6,h7⟩;·omega
   ·exact⟨g2,Y7,ad1,h1,h2,h3,h4,h5,by simpa using h6,by simpa using h7⟩
  have atM:=aw4 w.heap.size g2 (k+1) (Y7 -(k+1)) (n*8) (by omega) hg2 w2 ad1 5 hh2 (by omega);rw[Int.natCast_mul]at atM;have hb2:Below w.heap.size w w2:=hb.grown apx hb.size (fun j hj=>by cases hj;exact(MX.lt g rfl).1)
  go_wp2_with (first
   |(at_builtin;refine wpList_append_own _ rfl (.tmp 18) (.tmp 19) 48 rfl w.heap.size 5 i0 (.int .u8 0) 1 1 Tryz.underlying48 hi hz0 hz1 hz2 rfl (by decide) _ _ _ rfl (MX.alloc _) ⟨wr.heap.size,0,none⟩ 1 1 [.int .u8 0] rfl rfl (cell_one_new _ _ _) (ints_oneCell .u8 [0]) (by unfold maxLen;omega) (by omega) (by have:=hb.size;simp;omega) ?_;intro v1 w1 anz apz ay3)
   |(at_builtin;refine Lib.wpList_append_run _ rfl (.tmp 21) (.tmp 22) _ _ rfl _ _ rfl rfl _ _ hz8 ?_)
   |(go_at_call 128;refine atM.mono ?_;rintro e w3 ⟨rfl,atN⟩))
  ·have h:¬(((n:Int)+((k:Int)+1)+8)%64=0):=by simpa using‹(!decide (((n:Int)+((k:Int)+1)+8)%64=0))=true›
   have hk2:k≠K:=by omega
   obtain⟨g1,aiX,rfl⟩:∃g1 aiX,v1=.slice (some ⟨g1,0,none⟩) (k+1+1) aiX:=by
    rcases anz.2 with⟨_,h⟩|⟨g1,aiX,aAR,h1,_⟩;·omega
    ·exact⟨g1,aiX,h1⟩
   go_roundw
   case rel=>
    refine⟨k+1,g1,aiX,by omega,rfl, ?_,(hb.alloc hb.size _).grown apz (by have:=hb.size;simp;omega) (fun j hj=>by cases hj;exact(MX.lt g rfl).1)⟩;rw[List.replicate_succ'];exact anz
   case measure=>show K+1 -(k+1+1)<K+1 -(k+1);omega
  ·have hk2:k=K:=by
    have h:(((n:Int)+((k:Int)+1)+8)%64=0):=by simpa using‹(!decide (((n:Int)+((k:Int)+1)+8)%64=0))=false›
    omega
   obtain⟨⟨aw5,c1,c2,c3,c4⟩,hb3⟩:=atN
   go_ret
   subst hk2;have hl:(gC n).length=k+1+8:=by simp[gC,atJ,hK]
   refine⟨_,rfl,⟨by simp,.inr ⟨g2,Y7,aw5,by rw[hl];rfl,hg2,c1,by omega,hm2,by omega, ?_⟩⟩,hb2.trans hb3⟩;rw[BI,hl];apply K3;intro j;rw[Fj,gx,WC];by_cases h1:j<k+1
   ·have e:=congrArg (fun l:List Value=>l[j]?) ht2
    simp only[Fj,WC]at e;rw[if_pos (by omega)]at e;rw[if_pos (by omega),c3 j (by omega),e,kP (by simp;omega)];cases j with
    |zero=>rfl
    |succ j=>simp[gC,hK,adC,show j<k by omega]
   ·by_cases h2:j<k+1+8
    ·have e:=c4 (j -(k+1)) (by omega) (by omega)
     rw[show k+1+(j -(k+1))=j by omega]at e;rw[if_pos h2,e];obtain⟨i,rfl⟩:∃i,j=k+1+i:=⟨j -(k+1),by omega⟩;have hi8:i<8:=by omega
     rw[show k+1+i -(k+1)=i by omega];have e2:(gC n)[k+1+i]? =some (UInt8.ofNat (8*n/256^(7 -i))):=by unfold gC;rw[hK,show k+1+i=(k+i)+1 by omega,Xh,oR (by simp),atJ];simp[hi8]
     rw[e2];simp[TT,Cs]
    ·rw[if_neg h2,kR (by omega)]
     rfl
section
open Go.Lib
theorem XD{base:Nat}{bc:Nat->Prop}{aa:List (Option Nat)}{S:St}{w w':World}{mu:Nat->Option Nat}{hw hw':Nat->Nat}{ti:Id->TI}(hd:S_=false)(I:Inv base bc aa S w mu hw ti)(hb:Below w.heap.size w w')
 (h1:∀b,b<w.heap.size->hw' b=hw b) (h2:∀b,w'.heap.size<=b->hw' b=0):
 Inv base bc aa S w' mu hw' ti/\Ext base bc S w mu hw S w' mu hw':=by
 obtain⟨b1,b2,b3,b4,b5⟩:=hb
 have hle:∀b,hw b<=hw' b:=fun b=>by
  rcases iI b w.heap.size with h|h;·rw[h1 b h];exact eJ _
  ·rw[I.zj b h];exact sU _
 have e:Ext base bc S w mu hw S w' mu hw':=by refine⟨fun _ _ h=>h,hle,fun _ h=>h,fun b o v _ h=>?_,fun b h=>⟨b5 b (I.lJ b h),h1 b (I.lJ b h)⟩,⟨⟨b1,b2,b3,b4,fun k hk=>b5 k (by have:=I.mP;omega)⟩,fun h=>by rw[hd]at h;cases h⟩,eJ _⟩;rw[RR (b5 b (World.block_lt_of_cell? w _ h)) o];exact h
 refine⟨⟨fun i bx b a1 a2=>(I.qU i bx b a1 a2).ext e (b5 _ (I.iX i b a2).2.2.1),fun i cells bt l b a1 a2 vs el a3=>I.qL i cells bt l b a1 a2 vs el (by rw[<-b5 _ (I.iX i b a2).2.2.1];exact a3),I.vZ,fun i b h=>?_,h2,fun id L h=>?_,I.oQ,fun b h=>by have:=I.lJ b h;omega,by have:=I.mP;omega,e.glb I.AW⟩,e⟩
 ·obtain⟨a,b',c,d,f⟩:=I.iX i b h
  exact⟨a,b',by omega,by rw[h1 b c];exact d,f⟩
 ·obtain⟨a,b⟩:=I.v8 id L h
  exact⟨a.aN (h1 _ a.lt) (b5 _ a.lt),b⟩
theorem abS:S_=false:=rfl
theorem afb{f:FuncId}{fn:Func}(h:Tryz.prog.funcs[f]? =some fn)(hb:fn.body.isSome=true):∃fn c,Tryz.prog.funcs[f]? =some fn/\fn.body=some c:=by obtain⟨c,hc⟩:=X9.1 hb;exact⟨fn,c,h,hc⟩
theorem ajf{S:St}{r:AV}(h:aw r=true):S.length<=S.length/\iE S.length (fun k=>decide (S.length<=k)) r=true/\eK S.length S S/\aew S.length S:=
 ⟨eJ _,oo h _ _,eK.refl _ _,fun i cs bt l hi hS=>by have:=bQ hS;omega⟩
abbrev ASF:FuncId:=25
abbrev TE:TypeId:=62
abbrev TP:TypeId:=69
theorem apK:lH Tryz.prog (fun g args S=>if g=ASF then asP TP TE args S else none):=by
 intro f args S r S' h base bc w mu hw ti rM I hl ha;simp only at h;split at h;case isFalse=>cases h
 rename_i hf;subst hf;refine⟨afb Tryz.func25 (by kernel_rfl), ?_⟩;unfold asP at h;split at h;case h_2=>cases h
 rename_i e t i;split at h;case isFalse=>cases h
 rename_i ht;subst ht;split at h;case h_2=>cases h
 rename_i n m bt hn hS;cases h;unfold adZ at hn;split at hn;case h_2=>cases hn
 rename_i t n2;split at hn;case isFalse=>cases hn
 rename_i ht;cases hn;subst ht;obtain⟨v0,h0,r0,_⟩:=ha 0 _ rfl;obtain⟨v1,h1,r1,_⟩:=ha 1 _ rfl;cases r0 with
 |iL _ _ v0 _ r0=>
 cases r0 with
 |int=>
 cases r1 with
 |iL _ _ v1 _ r1=>
 cases r1 with
 |ptr _ _ b hb=>
 have hva:rM= #[.iface TE (.int .i64 n),.iface TP (.pointer (some ⟨b,0,none⟩))]:=by
  apply KT;intro k;match k with
  |0=>simpa using h0
  |1=>simpa using h1
  |k+2=>
   have:rM.size=2:=by simpa using hl.symm
   rw[yh (by omega)];simp
 subst hva;obtain⟨vs,el,DB,Vu⟩:=I.qU i _ b hS hb;obtain⟨di,am7,dlt,dhw,aeS⟩:=I.iX i b hb;obtain⟨hg1,hg2⟩:=I.AW.2 0 _ (adg ..);obtain⟨_,y,hy,hry⟩:=Vu.2 0 _ rfl;have aeu:w.cell? ⟨b,0,none⟩=some y:=by rw[eM DB];exact hy
 have atI:w.frozen? ⟨b,0,none⟩=false:=by simp[World.frozen?,DB]
 refine(apH n ⟨b,0,none⟩ y w hg2 aeu atI).mono fun e w' A=>?_;obtain⟨rfl,rfl⟩:=A;have hB:Below w.heap.size w ((((w.alloc (.cells #[.pointer (some ⟨b,0,none⟩)] 69)).alloc (.cells #[.pointer (some ⟨1,69,none⟩),.pointer (some ⟨w.heap.size,0,none⟩),.int .u64 150] 104)).alloc (.cells #[.pointer (some ⟨1,69,none⟩),.pointer (some ⟨w.heap.size,0,none⟩),.int .u64 150] 104)).alloc (.cells #[.int .i64 n] 62)):=
  ((((Below.refl _ w).alloc (eJ _) _).alloc (by simp) _).alloc (by simp;omega) _).alloc (by simp;omega) _
 generalize((((w.alloc (.cells #[.pointer (some ⟨b,0,none⟩)] 69)).alloc (.cells #[.pointer (some ⟨1,69,none⟩),.pointer (some ⟨w.heap.size,0,none⟩),.int .u64 150] 104)).alloc (.cells #[.pointer (some ⟨1,69,none⟩),.pointer (some ⟨w.heap.size,0,none⟩),.int .u64 150] 104)).alloc (.cells #[.int .i64 n] 62))=w1 at hB;obtain⟨I1,e1⟩:=XD abS I hB (fun _ _=>rfl) (fun b h=>I.zj b (yq hB.size h));have ahL:w1.heap[b]? =some (.cells vs el (0,0)):=by rw[hB.block b dlt];exact DB
 have ky:iK Tryz.prog TE=some 1:=by kernel_rfl
 have he:lD Tryz.prog ⟨[],[],0⟩ S TE (.ptr i 0) (.int .i64 n)=some ([],S.set i (.mem [.int .i64 n] bt false)):=by simp[lD,ky,hS,aaq,AV.cells,aB,dU]
 obtain⟨w2,zX,py⟩:=Ho (P:=Tryz.prog) I1 (E:=⟨[],[],0⟩) rfl (t:=TE) (p:=.ptr i 0) (x:=.int .i64 n) (vp:=.pointer (some ⟨b,0,none⟩)) (vx:=.int .i64 n) (.ptr i 0 b hb) (.int _ _) trivial he;have hvl:0<vs.size:=by
  rcases iI 0 vs.size with h|h;·exact h
  ·rw[yh h]at hy;cases hy
 have atW:=Bh (P:=Tryz.prog) (w:=w1) (t:=TE) (b:=b) (off:=0) (n:=1) (x:=.int .i64 n) ky rfl (by simp[Value.cells];rfl) ahL (by omega);have zm:w2=w1.setCell ⟨b,0,none⟩ (.int .i64 n):=by rw[atW]at zX;have:=(Result.ok.inj zX).2;rw[<-this];rfl
 subst zm;obtain⟨mu',hw',ti',I2,e2,lv2,_,_,hk2⟩:=py .nilIface;refine⟨.bool true,rfl,mu',hw',ti', ?_,e1.trans e2, ?_, ?_, ?_, ?_⟩;·exact I2
 ·exact lv2
 ·exact .bool true
 ·trivial
 ·exact hk2
theorem apL:jq (fun g args S=>if g=ASF then asP TP TE args S else none):=by
 intro f args S r S' h;simp only at h;split at h;case isFalse=>cases h
 unfold asP at h;split at h;case h_2=>cases h
 rename_i e t i;split at h;case isFalse=>cases h
 split at h;case h_2=>cases h
 rename_i n m bt hn hS;cases h;have hw:=eK.write (nb:=S.length) (off:=0) (bt':=bt) (l':=false) (new:=[.int .i64 n]) hS (.inr fun m q _=>ve m q _ (by simp[ck,aS]));rw[bX (cs:=[AV.int .i64 m]) (vs:=[AV.int .i64 n]) rfl]at hw;refine⟨by simp,oo rfl _ _,hw,fun k r_ bt' l' hi hk2=>?_⟩;have:=bQ hk2;simp at this;omega
abbrev FIL:FuncId:=127
theorem ajg:lH Tryz.prog (fun g args S=>if g=FIL then Lw args S else none):=by
 intro f args S r S' h base bc w mu hw ti rM I hl ha;simp only at h;split at h;case isFalse=>cases h
 rename_i hf;subst hf;refine⟨afb Tryz.func127 (by kernel_rfl), ?_⟩;unfold Lw at h;split at h;case h_2=>cases h
 rename_i n;split at h;case isFalse=>cases h
 rename_i hn;cases h;obtain⟨v0,h0,r0,_⟩:=ha 0 _ rfl;obtain⟨v1,h1,r1,_⟩:=ha 1 _ rfl;obtain⟨v2,h2,r2,_⟩:=ha 2 _ rfl;cases r0 with
 |int=>
 cases r1 with
 |int=>
 cases r2 with
 |int=>
 obtain⟨m,rfl⟩:∃m:Nat,n=(m:Int):=⟨n.toNat,by omega⟩;rw[CM];have hva:rM= #[.int .i64 (m:Int),.int .i64 64,.int .i64 8]:=by
  apply KT;intro k;match k with
  |0=>simpa using h0
  |1=>simpa using h1
  |2=>simpa using h2
  |k+3=>
   have:rM.size=3:=by simpa using hl.symm
   rw[yh (by omega)];simp
 subst hva;refine(aiW m (by omega) w).mono fun e w' A=>?_;obtain⟨v,rfl,⟨hln,MX⟩,hb⟩:=A;have nV:0<(gC m).length:=by simp[gC]
 rcases MX with⟨_,h0⟩|⟨g,cap,cur,rfl,hbg,hg,hnc,hcm,Sx,Hp⟩;·omega
 have hgl:g<w'.heap.size:=(MH.1 hg).1;rw[BI]at Hp;obtain⟨I1,e1⟩:=XD (hw':=fun b=>if b=g then(gC m).length else hw b) abS I hb (fun b h=>if_neg (by omega)) (fun b h=>(if_neg (by omega)).trans<|by exact I.zj b (yq hb.size h));refine⟨_,rfl,mu,_,ti,I1,e1,g9.refl _ _, ?_,by simp[aT,cA,cU,cX],fun i hi _=>⟨rfl,hi⟩⟩;have hc:∀(i:Nat)(c:UInt8),(gC m)[i]? =some c->w'.cell? ⟨g,i,none⟩=some (.int .u8 c.toNat):=fun i c hi=>by have e:=congrArg (fun l:List Value=>l[i]?) Hp;have cV:=(fI.1 hi).1;simp only[Fj,WC,if_pos cV,gx,hi,qJ]at e;rw[eM hg];exact e
 refine RV.sl .none 1 _ g 0 _ cap (fun i _=>.int .u8 ((gC m).getD i 0).toNat) ⟨by simp,hnc,by omega⟩ (by simp) (by simp) (by simp) (fun i cs hi=>?_) (fun i cs j a hi hj=>?_) (fun i cs j a hi hj=>?_)
 ·simp only[gx,cx]at hi
  obtain⟨c,_,rfl⟩:=hi;rfl
 ·simp only[gx,cx]at hi
  obtain⟨c,Vp,rfl⟩:=hi;cases j with
  |succ j=>simp at hj
  |zero=>
   simp at hj;subst hj;have cV:=(fI.1 Vp).1;refine⟨rfl, ?_, ?_⟩
   ·show 0+i*1+0<(if g=g then _ else _)
    rw[if_pos rfl];omega
   ·rw[show 0+i*1+0=i by omega,hc i c Vp]
    simp[Vp]
 ·simp only[gx,cx]at hi
  obtain⟨c,Vp,rfl⟩:=hi;cases j with
  |succ j=>simp at hj
  |zero=>
   simp at hj;subst hj;simp[Vp];exact .int _ _
theorem ajh:jq (fun g args S=>if g=FIL then Lw args S else none):=by
 intro f args S r S' h;simp only at h;split at h;case isFalse=>cases h
 unfold Lw at h;split at h;case h_2=>cases h
 split at h;case isFalse=>cases h
 cases h;refine ajf ?_;show ct _=true;generalize gC _=l;induction l with
 |nil=>rfl
 |cons c l ih=>simpa[ct,ck,aS]using ih
theorem atU:LN Tryz.prog nk:=by
 have one:∀f p,nk.rP f=some p->(f=FIL/\p=Lw)\/(f=ASF/\p=asP TP TE):=by
  intro f p h;simp only[nk,aje,List.lookup]at h;split at h;·rename_i e;cases h;exact .inl ⟨by simpa using e,rfl⟩
  split at h;·rename_i e;cases h;exact .inr ⟨by simpa using e,rfl⟩
  ·cases h
 refine⟨fun f p h=>?_,fun f p h=>?_⟩
 ·rcases one f p h with⟨rfl,rfl⟩|⟨rfl,rfl⟩
  ·exact ajg
  ·exact apK
 ·rcases one f p h with⟨rfl,rfl⟩|⟨rfl,rfl⟩
  ·exact ajh
  ·exact apL
end
section
open Go.Lib
def laidB:List (String × DataW Unit):=[("errors.errorType",Rows.laid_errors_errorType)]
theorem ajd{W:World}(h:laidMetH Tryz.prog laidB W):laidMet Tryz.prog [] W/\handlesMet Tryz.prog laidB W:=h
def apJ(g:Nat)(o:Obj):Obj:=
 match o with
 |.cells _ t frozen=>if g=0 then .cells #[.iface 155 (.agg #[.pointer (some ⟨1,50,none⟩)])] t frozen else o
 |o=>o
noncomputable def O6(os:Os):World:=
 let w0:=World.holding Tryz.prog os ⟨#[],#[],[]⟩
 {w0 with heap:=(List.range 1).foldl (fun h g=>h.modify g (apJ g)) w0.heap}
set_option maxRecDepth 100000 in
theorem abO(os:Os)(args:Array Value):laidMet Tryz.prog [] ((O6 os).forCall (fun _ _=>0) ⟨#[],args,[]⟩).memory:=
 laidMet_of_run' 8 (by kernel_rfl) (by kernel_rfl)
set_option maxRecDepth 100000 in
theorem abN(os:Os)(args:Array Value):laidMetH Tryz.prog laidB ((O6 os).forCall (fun _ _=>0) ⟨#[],args,[]⟩).memory:=
 laidMetH_of_parts (abO os args) (by kernel_rfl)
theorem atV{W:World}(h:laidMetH Tryz.prog laidB W):Glb W (QT W):=by
 obtain⟨h1,h2⟩:=ajd h;refine⟨fun g=>.undef _,fun g v hv=>?_⟩;obtain⟨name,u,ty,e1,e2,e3,e4,e5⟩:=h2 _ (Tx.2 rfl);have en:name=[101,114,114,111,114]:=(eL e1).symm;subst en;obtain rfl:=eL ((show(Tryz.prog.cutTypes.find? (·.1== "internal/reflectlite.rtype")).map (·.2)=some 155 by kernel_rfl).symm.trans e2);have hm:ty∈(List.range Tryz.prog.types.size).filter fun t=>Tryz.prog.rowNamed t [101,114,114,111,114]:=P2.2 ⟨Yd.2 e3,e4⟩;rw[show(List.range Tryz.prog.types.size).filter (fun t=>Tryz.prog.rowNamed t [101,114,114,111,114])=[50]by kernel_rfl]at hm;obtain rfl:=Tx.1 hm;rw[show typeHandle Tryz.prog 50=.pointer (some ⟨1,50,none⟩)by kernel_rfl]at e5;have hg:Tryz.prog.globalNamed "errors.errorType" =some 0:=by kernel_rfl
 have hc:W.cell? ⟨0,0,none⟩=some (.iface 155 (.agg #[.pointer (some ⟨1,50,none⟩)])):=by simpa using World.var?_cell hg e5 0
 simp only[aeH,Tx]at hv;cases hv;exact⟨Xy hc,hc⟩
end
section
open Go.ChangeShapes
section
variable{H:Type}{ai:TypeId × Value->H}{P:Program}
theorem Xz(hl:laidOutB P=true){W W':World}(hb:Below W.heap.size W W'){sp:Nat->Bool}:∀{ts:List TypeId}{vs:List Value}{ds:List (DataW H)}{ps:List MemPlace},(∀t∈ts,P.readableRec t=true/\t<P.types.size)->
 DataW.TrodAll ai P W 0 (fun _=>true) true ts vs ds ps->(∀p∈ps,p.block<W.heap.size/\sp p.block=true)->DataW.TrodAll ai P W' 0 sp true ts vs ds ps
 |[],[],[],ps,_,h,_=>h
 |t::ts,v::vs,d::ds,ps,ht,⟨p,q,h1,h2,e⟩,hs=>by subst e;refine⟨p,q,WideElems.Trod_stays hl (ht t (by simp)).1 (ht t (by simp)).2 h1 (fun x hx=>hb.same (hs x (by simp[hx])).1) (fun x hx=>(hs x (by simp[hx])).2), ?_,rfl⟩;exact Xz hl hb (fun t' h'=>ht t' (by simp[h'])) h2 fun x hx=>hs x (by simp[hx])
 |[],_::_,_,_,_,h,_=>h.elim
 |[],[],_::_,_,_,h,_=>h.elim
 |_::_,[],_,_,_,h,_=>h.elim
 |_::_,_::_,[],_,_,h,_=>h.elim
theorem agA{P:Program}{W:World}{r:Reach}{base:Nat}{t:TypeId}{v:Value}{fs:Array Field}(ht:P.underlying t=some (.struct fs))(h:Value.okWide P W r base t v):∃cs,v=.agg cs:=by unfold Value.okWide at h;rw[ht]at h;exact h.elim fun cs h=>⟨cs,h.1⟩
theorem ai1{f:Func}{s:ChangeSpec}{apart fresh handsOn again:Bool}{W W':World}{args:Array Value}{ds gs:List (DataW H)}{before:List MemPlace}{tb:TypeId}
 (hl:laidOutB P=true) (hts:∀t∈f.params.toList,P.readableRec t=true/\t<P.types.size) (ai2:s.vars=[]) (Tg:f.resultTypes= #[tb]) (htb:P.underlying tb=some .bool)
 (hfn:gs=[]->s.fn H (ds++gs)={results:=[.lit (.bool true)],args:=ds})
 (hW:DataW.Whole ai P f.params.toList s.vars apart W args.toList ds gs before) (hb:Below W.heap.size W W'):s.post ai P f apart fresh handsOn again W args (.bool true) W':=by
 have cV:=hW.lt;have hW':=hW;obtain⟨p,q,hA,hV,rfl,hz,hn⟩:=hW;rw[ai2]at hV;obtain⟨rfl,rfl⟩:=trodVars_none hV;have e:=hfn rfl;rw[kH]at e cV hz hn;have hr:(Value.bool true).resultList f.resultTypes.size=[.bool true]:=by rw[Tg];rfl
 have res:∀(b:Nat)(sp:Nat->Bool)(hd:Bool),DataW.TrodAll ai P W' b sp hd f.resultTypes.toList ((Value.bool true).resultList f.resultTypes.size) [.lit (.bool true)] []:=by intro b sp hd;rw[hr,Tg];exact⟨[],[],shut_bool htb true,rfl,rfl⟩
 have mN:∀sp:Nat->Bool,(∀x∈p,sp x.block=true)->DataW.TrodAll ai P W' 0 sp true f.params.toList args.toList ds p:=
  fun sp h=>Xz hl hb hts hA fun x hx=>⟨cV x hx,h x hx⟩
 refine⟨ds,[],p++[],[],p,[],hW', ?_, ?_, ?_,hb.frame _,fun _=>?_⟩;·rw[kH,e];exact res _ _ _
 ·rw[kH,e];exact mN _ fun x hx=>by simpa using cV x hx
 ·rw[ai2,kH,e];rfl
 ·refine⟨ok_one Tg rfl (okWide_bool_mk htb true),[.lit (.bool true)]++ds,[],p,⟨[]++p,[],trodAll_append (mN _ fun _ _=>rfl) (res _ _ _),by rw[ai2];rfl,by simp, ?_,fun ha=>hn ha⟩,fun x hx _=>by simpa using hx⟩
  intro b off hp;have:=hb.frozen (p:=⟨b,off,none⟩) (cV _ hp);rw[this];exact hz b off hp
end
end
end Go.Proofs.YtampclodiifalaaGreatDoor.am
