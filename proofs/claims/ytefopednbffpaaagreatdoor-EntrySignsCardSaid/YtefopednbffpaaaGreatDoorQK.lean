/- Parts. No condition. -/
import Derived.KernelRfl
import Derived.Test.YtefopednbffpaaaGreatDoorRows
import Derived.WideShapes
import Derived.RowKitTokens
import Derived.Test.YtefopednbffpaaaGreatDoorTie
import Derived.Test.YtefopednbffpaaaGreatDoorCards
import Derived.SevenTiedAt
import Derived.Test.YtefopednbffpaaaGreatDoorQJ
set_option linter.all false
namespace Go.Proofs.YtefopednbffpaaaGreatDoor.am
open Go
open Option renaming some->J,none->D
open Bool renaming false->O,true->G,and_eq_true->mz
open Go.IntKind renaming i64->Y,wrap->dh,u64->U,u8->L
open UInt8 renaming ofNat->cw,toNat_ofNat'->qE
open Decidable renaming decide->ck
open List renaming drop_eq_nil_of_le->jM,replicate->fg,take_of_length_le->oL,append_assoc->s_
open Nat renaming mod_eq_of_lt->fQ,div_div_eq_div_mul->th,mod_lt->gH,lt_of_lt_of_le->zj
open Go renaming TypeId->bS,Program->cO,Value->bC,World->cd
open Go.Proofs.Tryz renaming prog->fF
open Option.some renaming inj->sL
open Go.Proofs.YtefopednbffpaaaGreatDoor.am renaming om->V,St->Z,ay->N,ai->R,nk->C,aM->M,AV->Q,bg->X,au->B,DF->W,pP->F,bJ->K
def bd.wk(e:bd)(k:X):bd:={e with gg:=k}
def bd.ws(e:bd)(k:X):bd:={e with je:=k}
def bd.TC{e:bd}(h:e.Wf){k:X}(a:k.length=32):(e.wk k).Wf:=⟨⟨h.aZ,h.aN,a,h.je⟩,h.k0,h.k1,h.RW,h.op,h.eD⟩
def bd.ac5{e:bd}(h:e.Wf){k:X}(a:k.length=64):(e.ws k).Wf:=⟨⟨h.aZ,h.aN,h.gg,a⟩,h.k0,h.k1,h.RW,h.op,h.eD⟩
def bd.Vp{e:bd}(A:e.Ok){k:X}(b:k.length=32):aQ e.aq 64 (R k)=(e.wk k).aq:=by
 have a:∀x:X,(.I Y e.ak::(R e.aZ++(ot e.aN::(e.op.aq++(e.eD.aq++(R x++R e.je))))):K)=(.I Y e.ak::(R e.aZ++(ot e.aN::(e.op.aq++e.eD.aq))))++(R x++R e.je):=λx=>by simp
 show aQ (.I Y e.ak::(R e.aZ++(ot e.aN::(e.op.aq++(e.eD.aq++(R e.gg++R e.je))))):K) 64 (R k)=(.I Y e.ak::(R e.aZ++(ot e.aN::(e.op.aq++(e.eD.aq++(R k++R e.je))))):K);rw[a,a];exact yg (by simp[A.aZ]) (by simp[A.gg,b])
def bd.ac6{e:bd}(A:e.Ok){k:X}(b:k.length=64):aQ e.aq 96 (R k)=(e.ws k).aq:=by
 have a:∀x:X,(.I Y e.ak::(R e.aZ++(ot e.aN::(e.op.aq++(e.eD.aq++(R e.gg++R x))))):K)=(.I Y e.ak::(R e.aZ++(ot e.aN::(e.op.aq++(e.eD.aq++R e.gg)))))++(R x++[]):=λx=>by simp
 show aQ (.I Y e.ak::(R e.aZ++(ot e.aN::(e.op.aq++(e.eD.aq++(R e.gg++R e.je))))):K) 96 (R k)=(.I Y e.ak::(R e.aZ++(ot e.aN::(e.op.aq++(e.eD.aq++(R e.gg++R k))))):K);rw[a,a];exact yg (by simp[A.aZ,A.gg]) (by simp[A.je,b])
def bd.Yo(e:bd)(k:X):(e.wk k).cM=e.cM:=rfl
def bd.ah0(e:bd)(k:X):(e.ws k).cM=e.cM:=rfl
def bd.ac7(e:bd)(k:X):(e.ws k).dH=e.dH:=rfl
set_option maxRecDepth 20000 in
def NQ(s k:X)(hs:s.length=32)(y:k.length=32)(e:bd)(x:e.Wf)(hn:(e.cM&&ck ((e.wk k).bytes.length<=4096))=O)(S:Z)(pu:∀T,W N C 16 [.A (R s)] T=J (.A (R k),T)):
 ∃n:Int,(n=if e.cM=G then 3 else 1)/\W N C 6 [.A (R s),.A e.aq] S=J (.cV [.A (bH.map eE),.kv 71 (.I Y n)],S):=by
 have A:=x.toOk;have w:(e.wk k).Wf:=bd.TC x y;have z:=w.toOk;have E:=λT=>vn (e.wk k) w T;have tk:=HQ (e.wk k).cM (e.wk k).bytes (e.wk k).im;have es:(e.wk k).cM=e.cM:=bd.Yo _ _;have i:(R s).length=32:=by simp[hs]
 have h:cU (R s):=aF _;have q:=bA i h;have hl2:(R k).length=32:=by simp[y]
 have l:cU (R k):=aF _;have hz:bH.length=160:=rfl;have I:(AV.A (R k)).cells=R k:=rfl;have sk:∀c d,ba [] S.length (S++[c,.M e.aq [] O,d]) 32 (.P (S.length+1) 64) (.A (R k))=J ([],S++[c,.M (e.wk k).aq [] O,d]):=λc d=>by simp_all[bd.Vp]
 have zp:dJ bH=G:=rfl;have zl:=zp;have t:∀g c d,ba g S.length (S++[c,d,.M bH [] O]) 160 (.P (S.length+2) 0) (.A bH)=J (g,S++[c,d,.M bH [] O]):=λg c d=>by simp_all[PW]
 have o:∀c d,aX (S++[c,d,.M bH [] O]) (.A 160) (.P (S.length+2) 0)=J (.A bH):=λc d=>by rw[bL (cr S _ 2)];rfl
 have P:dk bH []=J bH:=rfl;have nz:cj (.A bH)=.A (bH.map eE):=rfl;have j:∀n,ec .neq (.kv fV) G (.kv 71 (.I Y n)) .dj=J (.B G):=λ_=>rfl;have e1:Bh 1=.kv 71 (.I Y 1):=rfl;have e3:Bh 3=.kv 71 (.I Y 3):=rfl;have r:∀n g a,dv 6 g [.A bH,.kv 71 (.I Y n)] S (S++a)=J (.cV [.A (bH.map eE),.kv 71 (.I Y n)],S):=λn g a=>by rw[uY,nz];have p:dJ (bH.map eE)=G:=rfl;simp_all[cI,bm,aG,br]
 obtain⟨n,m,u⟩:∃n:Int,(n=if e.cM=G then 3 else 1)/\aY [] (xj (e.wk k).cM (e.wk k).bytes)=(.cV [.aw,.kv 71 (.I Y n)],[]):=by grind
 refine⟨n,m, ?_⟩;have r:=r n;have j:=j n;generalize xj (e.wk k).cM (e.wk k).bytes=b,R k=EK,R s=v at*;have cs:(AV.A v).cells=v:=rfl;rw[jN e_6];generalize hZ:bH=f at*;simp-implicitDefEqProofs [A,z,i,h,q,pu,l,sk,E,u,j,P,t,o,r,bF, -B]
def NR(s k g:X)(hs:s.length=32)(hk:k.length=32)(hg:g.length=64)(e:bd)(he:e.Wf)(hn:(e.cM&&ck ((e.wk k).bytes.length<=4096))=G)(S:Z)(pu:∀T,W N C 16 [.A (R s)] T=J (.A (R k),T))
 (sg:∀T,W N C 18 [.A (R s),.sl .N 1 [[.sl .N 1 (cE (e.wk k).dH)]]] T=J (.A (R g),T)):
 W N C 6 [.A (R s),.A e.aq] S=J (.cV [.A ((e.wk k).ws g).aq,.dj],S):=by
 have A:=he.toOk;have r:(e.wk k).Wf:=bd.TC he hk;have A1:=r.toOk;have z:((e.wk k).ws g).Wf:=bd.ac5 r hg;have A2:=z.toOk;have x:(e.wk k).cM=e.cM:=bd.Yo e k;have o:((e.wk k).ws g).cM=e.cM:=(bd.ah0 _ g).trans x;simp only[mz,decide_eq_true_eq]at hn;have⟨u,hl⟩:=hn;have v:=bd.Av A1;have n:=bd.Av A2;rw[bd.ac7]at n;have c1:=λT=>vn (e.wk k) r T;have c3:=λT=>vn ((e.wk k).ws g) z T;have cD:=λT=>afj ((e.wk k).ws g) z (o.trans u) V T;have n1:=(e.wk k).im;have n2:=((e.wk k).ws g).im;have q1:=HR (x.trans u) n1;have q2:=HR (o.trans u) n2;rw[uB]at q1 q2;simp only[q1]at c1;simp only[q2]at c3;have⟨tX,ho,w,l⟩:=DT (e.wk k) r (x.trans u) (S++[.M (R s) [] O,.M (e.wk k).aq [] O,.M bH [] O]);have eo:=l V;rw[eo]at w ho;have tk1:=λt=>ac3 t (e.wk k).bytes .dj (λ_=>rfl);have tk2:=λt=>ac3 t (e.wk k).dH (.B (ck ((e.wk k).dH.length+64<=4096))) (λ_=>rfl);have tk3:=λt=>ac3 t ((e.wk k).ws g).bytes .dj (λ_=>rfl);have tkD:∀t,aY t (.cV [.A ((e.wk k).ws g).aq,.dj])=(.cV [.A ((e.wk k).ws g).aq,.dj],t):=λ_=>rfl;have q:(R s).length=32:=by simp[hs]
 have p:cU (R s):=aF _;have pk1:=bA q p;have hl2:(R k).length=32:=by simp[hk]
 have E:cU (R k):=aF _;have hl3:(R g).length=64:=by simp[hg]
 have I:cU (R g):=aF _;have hz:bH.length=160:=rfl;have c32:(AV.A (R k)).cells=R k:=rfl;have sk:∀b c,ba [] S.length (S++[b,.M e.aq [] O,c]) 32 (.P (S.length+1) 64) (.A (R k))=J ([],S++[b,.M (e.wk k).aq [] O,c]):=λb c=>by simp_all[bd.Vp]
 have c64:(AV.A (R g)).cells=R g:=rfl;have sg2:∀i b c,ba i S.length (S++[b,.M (e.wk k).aq [] O,c]) 64 (.P (S.length+1) 96) (.A (R g))=J (i,S++[b,.M ((e.wk k).ws g).aq [] O,c]):=λi b c=>by simp_all[bd.ac6]
 have dE:=bd.jh ((e.wk k).ws g);have stz:∀i b c,ba i S.length (S++[b,c,.M bH [] O]) 160 (.P (S.length+2) 0) (.A ((e.wk k).ws g).aq)=J (i,S++[b,c,.M ((e.wk k).ws g).aq [] O]):=λi b c=>by simp_all
 have b0:ec .neq (.kv fV) G .dj .dj=J (.B O):=rfl;have bo:∀j,fh 1 (fg 1 [AV.aw]) [(0,.sl (.fr j) 1 (cE (e.wk k).dH))]=J [[.sl .N 1 (cE (e.wk k).dH)]]:=λ_=>rfl;have y:∀T,bG T (.sl .X 1 [[.sl .N 1 (cE (e.wk k).dH)]])=J (.sl .X 1 [[.sl .N 1 (cE (e.wk k).dH)]]):=λ_=>rfl;have P:∀T,bK T (.sl .X 1 [[.sl .N 1 (cE (e.wk k).dH)]])=T:=λ_=>rfl;have ulX:∀T m,bh T m (.sl .X 1 [[.sl .N 1 (cE (e.wk k).dH)]])=m:=λ_ _=>rfl;have noX:dT (.sl .X 1 [[.sl .N 1 (cE (e.wk k).dH)]])=.sl .N 1 [[.sl .N 1 (cE (e.wk k).dH)]]:=rfl;have gf:∀T j,bG T (.sl (.fr j) 1 (cE ((e.wk k).ws g).bytes))=J (.sl .N 1 (cE ((e.wk k).ws g).bytes)):=λ_ _=>rfl;have lf:∀T j,bK T (.sl (.fr j) 1 (cE ((e.wk k).ws g).bytes))=T:=λ_ _=>rfl;have uf:∀T m j,bh T m (.sl (.fr j) 1 (cE ((e.wk k).ws g).bytes))=m:=λ_ _ _=>rfl;have nf':dT (.sl .N 1 (cE ((e.wk k).ws g).bytes))=dw ((e.wk k).ws g).bytes:=oE _;have rs:∀i a,dv 6 i [.A ((e.wk k).ws g).aq,.dj] S (S++a)=J (.cV [.A ((e.wk k).ws g).aq,.dj],S):=λi a=>by have n1:cj (.A ((e.wk k).ws g).aq)=.A ((e.wk k).ws g).aq:=dE.agg.cj;simp_all[aG]
 clear l eo q1 q2 v n ho hl;simp only[fg]at bo;generalize ck ((e.wk k).dH.length+64<=4096)=qb at*;generalize dw ((e.wk k).ws g).bytes=EB at*;generalize cE ((e.wk k).ws g).bytes=BC at*;generalize cE (e.wk k).bytes=BD at*;generalize cE (e.wk k).dH=BE at*;generalize(e.wk k).ws g=f at*;generalize e.wk k=d at*;generalize R k=EK at*;generalize R g=EG at*;generalize R s=ES at*;have cs:(AV.A ES).cells=ES:=rfl;rw[jN e_6];generalize hZ:bH=h at*;try simp at w
 simp-implicitDefEqProofs [A,A1,A2,q,p,pk1,pu,E,I,sk,c1,tk1,b0,w,tk2,bo,y,P,ulX,noX,cQ,b_,sg,sg2,c3,tk3,gf,lf,uf,nf',cD,tkD,stz,rs,bF, -B]
@[simp high]def bd.f1{e:bd}(h:e.Ok):dG (.A 32) e.aq 1=J (.A (R e.aZ)):=
  kB (a:=[.I Y e.ak]) (b:=R e.aZ) (c:=ot e.aN::(e.op.aq++(e.eD.aq++(R e.gg++R e.je)))) rfl rfl (by simp[h.aZ]) (aF _).jg
@[simp]def aFE{x y:List UInt8}(a:x.length=32)(b:y.length=32):FL [.i,.i,.i,.i,.i,.i,.i,.i,.i,.i,.i,.i,.i,.i,.i,.i,.i,.i,.i,.i,.i,.i,.i,.i,.i,.i,.i,.i,.i,.i,.i,.i] (R x) (R y)=J (same x y):=LL x y 32 a b
@[simp]def aFF{x y:List UInt8}(a:x.length=64)(b:y.length=64):FL [.i,.i,.i,.i,.i,.i,.i,.i,.i,.i,.i,.i,.i,.i,.i,.i,.i,.i,.i,.i,.i,.i,.i,.i,.i,.i,.i,.i,.i,.i,.i,.i,.i,.i,.i,.i,.i,.i,.i,.i,.i,.i,.i,.i,.i,.i,.i,.i,.i,.i,.i,.i,.i,.i,.i,.i,.i,.i,.i,.i,.i,.i,.i,.i] (R x) (R y)=J (same x y):=LL x y 64 a b
theorem bd.lr(a b:bd):same a b=(ck (a.ak=b.ak)&&(same a.aZ b.aZ&&(same a.gg b.gg&&(same a.je b.je&&(same a.aN b.aN&&(same a.op b.op&&same a.eD b.eD)))))):=by
 rw[J3];simp only[mz,decide_eq_true_eq,qc];cases a;cases b
 grind
def Ic(a b:bd)(A:a.Ok)(B:b.Ok)(S:Z)(n:Nat)(o:(a.aN).length=n)(p:(b.aN).length=n)(w:n<9223372036854775808):∀d i,i+d=n->
 DC N C (.L wI) ⟨[(2,.P S.length 0),(3,.P (S.length+1) 0),(5,.I Y (i:Nat))],[],S.length⟩ (S++[.M a.aq [] O,.M b.aq [] O])=if sX (same:List UInt8->List UInt8->Bool) ((a.aN).drop i) ((b.aN).drop i)=G then J (.E 0,⟨[(2,.P S.length 0),(3,.P (S.length+1) 0)],[],S.length⟩,S++[.M a.aq [] O,.M b.aq [] O])else J (.R,⟨[(4,.B O)],[],S.length⟩,S++[.M a.aq [] O,.M b.aq [] O]):=by
 intro d;induction d with
 |zero=>
  intro i u;rw[aj,aO kM];have h:(a.aN).drop i=[]:=jM V;have s:(b.aN).drop i=[]:=jM V;have t:¬i<n:=V;simp[h,s,t,sX,o,p,A,B]
 |succ d v=>
  intro i u;have h:i<n:=V;rw[aj,aO kM];have⟨x,k,f⟩:=aS (l:=a.aN) (i:=i) V;have⟨y,m,g⟩:=aS (l:=b.aN) (i:=i) V;rw[bf k,bf m];have q:=v (i+1) V;have r:=aR (i:=i) V;have c:=A.aN x (gM k);have e:=B.aN y (gM m);simp at q r;cases j:((same:List UInt8->List UInt8->Bool)) x y
  ·(try simp at j)
   simp[h,k,m,f,g,j,sX,bT,o,p,A,B,c,e]
  ·(try simp at j)
   simp[h,k,m,f,g,j,sX,bT,o,p,A,B,c,e];rw[ab kM];simp[r,q]
def zR(a b:bd)(q:a.iH)(t:b.iH)(S:Z):W N C 10 [.A a.aq,.A b.aq] S=J (.B (same a b),S):=by
 rw[jN aFG,bd.lr];have A:=q.toOk;have c:=t.toOk;have d:=A.aZ;have h:=c.aZ;have f:=A.gg;have i:=c.gg;have g:=A.je;have j:=c.je;have n:=zQ a.op b.op q.op t.op;have m:=zP a.eD b.eD q.eD t.eD;by_cases k:b.aN.length=a.aN.length;rotate_left
 ·have w:¬a.aN.length=b.aN.length:=λe=>k e.symm
  simp[dM,A,c,w,vk k]
 have s:=Ic a b A c S a.aN.length rfl k q.ahN a.aN.length 0 V;simp only[CS]at s;simp at s;simp[dM,A,c,k];rw[ab kM];simp[dM,s];cases v:same a.aN b.aN;·simp
 simp[dM,v];by_cases l:a.ak=b.ak;rotate_left;·simp[dM,l,A,c,d,h,f,i,g,j,n,m]
 by_cases o:a.aZ=b.aZ;rotate_left;·simp[dM,l,o,A,c,d,h,f,i,g,j,n,m]
 by_cases p:a.gg=b.gg;rotate_left;·simp[dM,l,o,p,A,c,d,h,f,i,g,j,n,m]
 by_cases r:a.je=b.je;rotate_left;·simp[dM,l,o,p,r,A,c,d,h,f,i,g,j,n,m]
 cases u:same a.op b.op;·simp[dM,l,o,p,r,u,A,c,d,h,f,i,g,j,n,m]
 simp[dM,l,o,p,r,u,A,c,d,h,f,i,g,j,n,m]
def pA(l:List UInt64):kp:=l.map λx=>[M x]
def pR:K:=[.I Y 64,.sl .N 1 (pA qt.l),.sl .N 1 (pA iG),.I Y 28,.I Y 34,.I Y 39,.I Y 14,.I Y 18,.I Y 41,.I Y 1,.I Y 8,.I Y 7,.I Y 19,.I Y 61,.I Y 6,.I Y 16,M 18446744073709551615]
def Rj(l:List UInt64):∀c∈pA l,cU c:=by intro c a;obtain⟨x,_,rfl⟩:=zK.1 a;simp
def Mz(l:List UInt64):eS (pA l)=G:=kC.2 λx a=>(Rj l x a).br
def aea(x:UInt64):x&&&18446744073709551615=x:=by apply UInt64.toBitVec_inj.1;rw[UInt64.toBitVec_and];exact BitVec.and_allOnes
def aH5(x:UInt64):(18446744073709551615:UInt64)^^^x= ~~~x:=by rfl
def xR:cU pR:=by
 have a:zs (.sl .N 1 (pA qt.l)):=by have:=lq 1 (Rj qt.l);exact this
 have b:zs (.sl .N 1 (pA iG)):=by have:=lq 1 (Rj iG);exact this
 simp_all[pR]
def K_:pR.length=17:=rfl
def zb(x:UInt64)(n:Nat)(p:1<=n)(q:n<64)(S:Z):W N C 293 [.A pR,M x,.I Y (n:Int)] S=J (M (jk x n),S):=by
 have g:=xR;have i:aX (S++[.M pR [] O]) .C (.P S.length 0)=J (.I Y 64):=by rw[ky];rfl
 have d:aX (S++[.M pR [] O]) .C (.P S.length 16)=J (M 18446744073709551615):=by rw[ky];rfl
 have e:=Ae x n V Y;have f:=Oy x (64 -n) V Y;have l:B .sub (.I Y 64) (.I Y (n:Int))=J (.I Y ((64 -n:Nat):Int)):=by
  show J (AV.I Y (dh Y (64 -(n:Int))))=_;rw[cF V]
  grind
 have k:ct x n|||By x (64 -n)=jk x n:=UInt64.or_comm _ _;have j:=aea (jk x n);have h:=K_;rw[LB aBx];generalize r:((64 -n:Nat):Int)=a,s:pR=b,jk x n=c,ct x n=m,By x (64 -n)=o at*;simp[-B,g,h,e,f,l,i,d,k,j]
def Nz(x:UInt64)(a b c:Nat)(e:1<=a)(j:a<64)(f:1<=b)(k:b<64)(s:c<64)(S:Z):W N C 280 [.A pR,M x,.A [.I Y (a:Int),.I Y (b:Int),.I Y (c:Int)]] S=J (M (jk x a^^^jk x b^^^ct x c),S):=by
 have l:=xR;have m:=K_;have n:aX (S++[.M pR [] O,.M [.I Y (a:Int),.I Y (b:Int),.I Y (c:Int)] [] O]) (.A 17) (.P S.length 0)=J (.A pR):=by rw[ky];rfl
 have h:=λS=>zb x a e j S;have i:=λS=>zb x b f k S;have g:=Ae x c V Y;rw[LB aBk];generalize r:pR=d,jk x a=o,jk x b=p,ct x c=q at*;simp[-B,l,m,n,h,i,g]
def Ub(x:UInt64)(a b c:Nat)(e:1<=a)(k:a<64)(f:1<=b)(l:b<64)(g:1<=c)(m:c<64)(S:Z):W N C 281 [.A pR,M x,.A [.I Y (a:Int),.I Y (b:Int),.I Y (c:Int)]] S=J (M (jk x a^^^jk x b^^^jk x c),S):=by
 have n:=xR;have o:=K_;have p:aX (S++[.M pR [] O,.M [.I Y (a:Int),.I Y (b:Int),.I Y (c:Int)] [] O]) (.A 17) (.P S.length 0)=J (.A pR):=by rw[ky];rfl
 have h:=λS=>zb x a e k S;have i:=λS=>zb x b f l S;have j:=λS=>zb x c g m S;rw[LB aBl];generalize t:pR=d,jk x a=q,jk x b=r,jk x c=s at*;simp[-B,n,o,p,h,i,j]
@[simp]def aD8(l:List UInt64):(pA l).length=l.length:=by simp[pA]
theorem ad8(a:List UInt64)(x:UInt64):pA (a++[x])=pA a++[[M x]]:=by simp[pA]
def ad9{l:List UInt64}{i:Nat}(h:i<l.length):(pA l)[i]? =J [M (l.getD i 0)]:=by grind [pA]
def A_{a:Q}{ag:bV}{l:List UInt64}(h:d_ 1 a ag (pA l))(i:Nat)(b:i<l.length)(k:IntKind):nK 1 a (.I k (i:Int))=J (.eZ .N [M (l.getD i 0)] 0):=by rw[d_.ix h k i (by simp_all),ad9 b];rfl
def aD9(T:Z)(x:UInt64):aX T .C (.eZ .N [M x] 0)=J (M x):=rfl
def Rh(S:Z):let T:=S++[de.M pR [] O]
 aX T .C (.P S.length 0)=J (.I Y 64)/\aX T .C (.P S.length 2)=J (.sl .N 1 (pA iG))/\aX T .C (.P S.length 16)=J (M 18446744073709551615)/\
 aX T (.A 3) (.P S.length 3)=J (.A [.I Y 28,.I Y 34,.I Y 39])/\aX T (.A 3) (.P S.length 6)=J (.A [.I Y 14,.I Y 18,.I Y 41])/\
 aX T (.A 3) (.P S.length 9)=J (.A [.I Y 1,.I Y 8,.I Y 7])/\aX T (.A 3) (.P S.length 12)=J (.A [.I Y 19,.I Y 61,.I Y 6])/\
 aX T (.A 17) (.P S.length 0)=J (.A pR):=by
 refine⟨?_, ?_, ?_, ?_, ?_, ?_, ?_, ?_⟩;·rw[ky];rfl
 ·rw[ky];rfl
 ·rw[ky];rfl
 ·rw[ky];rfl
 ·rw[ky];rfl
 ·rw[ky];rfl
 ·rw[ky];rfl
 ·rw[ky]
  rfl
def aJ(a b:Int):B .add (.I Y a) (.I Y b)=J (.I Y (dh Y (a+b))):=rfl
def lJ(a b:Int):B .lss (.I Y a) (.I Y b)=J (.B (ck (a<b))):=rfl
def abV(m:X)(i:Nat)(hi:8*i+8<=m.length)(hi2:i<16)(rh h:Q)(ag:bV)(S:Z):∀d j n,j+d=8->n<256^j->
 DC N C (.L nY) ⟨[(1,rh),(2,dw m),(3,.P S.length 0),(7,h),(8,.I Y (i:Nat)),(9,.I U (n:Nat)),(10,.I Y (j:Nat))],ag,S.length⟩ (S++[.M pR [] O])=
  J (.E 2,⟨[(1,rh),(2,dw m),(3,.P S.length 0),(7,h),(8,.I Y (i:Nat)),(9,.I U ((ZB n ((m.take (8*i+8)).drop (8*i+j)):Nat):Int))],ag,S.length⟩,S++[.M pR [] O]):=by
 obtain⟨l0, -, -, -, -, -, -, -⟩:=Rh S;have q8:B .quo (.I Y 64) (.I Y 8)=J (.I Y 8):=rfl;generalize hT:S++[de.M pR [] O]=T at*;intro d;induction d with
 |zero=>
  intro j n hj r;have e:j=8:=V;subst e;have h3:(m.take (8*i+8)).drop (8*i+8)=[]:=jM (by grind);simp[aj,aO jJ,h3, -B,l0,q8,lJ,ZB]
 |succ d ih=>
  intro j n hj r;have hw:=aR (i:=j) V;have⟨y,hy,hy'⟩:=aS (l:=m) (i:=8*i+j) V;have s:(m.take (8*i+8))[8*i+j]? =J y:=by grind
  have p4:(256:Nat)^j<=256^7:=ya V V;have t:=zj r p4;have yl:=y.toNat_lt;have g:n*256+y.toNat<256^(j+1):=V;have v:=Y7 n t;have q:=ad_ n y t;have m1:B .mul (.I Y (i:Int)) (.I Y 64)=J (.I Y ((64*i:Nat):Int)):=by
   show J (AV.I Y (dh Y ((i:Int)*64)))=_;rw[cF V]
   grind
  have u:B .quo (.I Y ((64*i:Nat):Int)) (.I Y 8)=J (.I Y ((8*i:Nat):Int)):=by show(if(8:Int)=0 then D else J (AV.I Y (dh Y (((64*i:Nat):Int).tdiv 8))))=_;rw[uB,Tm V,cF V];congr 2;omega
  have p:dh Y (((8*i:Nat):Int)+(j:Int))=((8*i+j:Nat):Int):=by rw[cF V];omega
  have k:=AT m Y (8*i+j);rw[hy]at k;have o:=ih (j+1) (n*256+y.toNat) V g;rw[aj,aO jJ,bf s,ZB];rw[show 8*i+(j+1)=8*i+j+1 from rfl]at o;obtain⟨A,w⟩:∃A:Int,A=((n*256+y.toNat:Nat):Int):=⟨_,rfl⟩;obtain⟨a,x⟩:∃a:Int,a=((n*256:Nat):Int):=⟨_,rfl⟩;obtain⟨b,z⟩:∃b:Int,b=((64*i:Nat):Int):=⟨_,rfl⟩;obtain⟨c,I⟩:∃c:Int,c=((8*i:Nat):Int):=⟨_,rfl⟩;obtain⟨E,P⟩:∃E:Int,E=((8*i+j:Nat):Int):=⟨_,rfl⟩;rw[<-w]at o q;rw[<-x]at v q;rw[<-z]at m1 u;rw[<-I]at u p;rw[<-P]at p k;generalize ZB (n*256+y.toNat) (List.drop (8*i+j+1) (List.take (8*i+8) m))=f at*;clear w x z I P g r p4 t;simp at o hw;simp at k;simp[(V:(j:Int)<8), -B, -oI, -AT,l0,q8,lJ,aJ,v,q,abF y,m1,u,p,k,bq];rw[ab jJ];simp[hw,o, -B]
def aoS(a w2 b c:UInt64):(jk w2 19^^^jk w2 61^^^ct w2 6)+c+(jk a 1^^^jk a 8^^^ct a 7)+b=
 b+(jk a 1^^^jk a 8^^^ct a 7)+c+(jk w2 19^^^jk w2 61^^^ct w2 6):=by
 ac_rfl
def af2(m:X)(hm:128<=m.length)(rh:Q)(S:Z):∀d i(f:Q)(ag:bV),i+d=80->d_ 1 f ag (pA (oJ m i))->
 ∃c aT,d_ 1 c aT (pA (oJ m 80))/\DC N C (.L nZ) ⟨[(1,rh),(2,dw m),(3,.P S.length 0),(7,f),(8,.I Y (i:Nat))],ag,S.length⟩ (S++[.M pR [] O])=
  J (.E 0,⟨[(1,rh),(3,.P S.length 0),(7,c)],aT,S.length⟩,S++[.M pR [] O]):=by
 have⟨l0,l2,l16,l3,l6,l9,l12,lA⟩:=Rh S;have lk:fG (.sl .N 1 (pA iG))=J (.I Y 80):=rfl;intro d;induction d with
 |zero=>
  intro i f ag hi k;have e:i=80:=V;subst e;refine⟨f,ag,k, ?_⟩;rw[aj,aO fL];generalize S++[de.M pR [] O]=T,AV.sl .N 1 (pA iG)=KK at*;simp[-B,l2,lk,lJ]
 |succ d ih=>
  intro i f ag hi k;have h3:(i:Int)<80:=V;have z:=aR (i:=i) V;have bo:∀x,fh 1 [[AV.I U 0]] [(0,M x)]=J [[M x]]:=λ_=>rfl;have es:oJ m (i+1)=oJ m i++[if i<16 then za m i else Su (oJ m i) i]:=rfl
  have ap:∀x:UInt64,x=(if i<16 then za m i else Su (oJ m i) i)->∃l n,eK 1 ag (S++[.M pR [] O]) f (.sl .X 1 [[M x]])=J (l,n,S++[.M pR [] O])/\d_ 1 l n (pA (oJ m (i+1))):=λx hx=>by
   have⟨l,n,o,y⟩:=d_.app k (xs:=[[M x]]) ca (by simp;omega) .X (S++[.M pR [] O])
   grind [ad8]
  by_cases I:i<16
  ·have h:(i:Int)<16:=V
   have g:=abV m i V I rh f ag S 8 0 0 V ca;have bl:=Wu ((m.take (8*i+8)).drop (8*i)) 0 0 ca;have ql:((m.take (8*i+8)).drop (8*i)).length=8:=by grind
   rw[ql]at bl;have ew:AV.I U ((ZB 0 ((m.take (8*i+8)).drop (8*i)):Nat):Int)=M (za m i):=by
    show _=AV.I U (((za m i).toNat:Nat):Int)
    grind [za,UInt64.toNat_ofNat']
   rw[show 8*i+0=8*i from rfl,ew]at g;have⟨l,n,o,y⟩:=ap (za m i) (by simp_all);have⟨c,aT,n1,t⟩:=ih (i+1) l n V y;refine⟨c,aT,n1, ?_⟩;rw[aj,aO fL];generalize S++[de.M pR [] O]=T,AV.sl .N 1 (pA iG)=KK,za m i=b at*;simp at g t z;simp[h3,h, -B,l2,lk,lJ];rw[ab jJ];simp[g,bo,o, -B,aJ];rw[ab fL];simp[z,t, -B]
  ·have h:¬(i:Int)<16:=V
   have r:=A_ k (i -15) (by rw[K9];omega) Y;have i2:=A_ k (i -2) (by rw[K9];omega) Y;have s:=A_ k (i -16) (by rw[K9];omega) Y;have i7:=A_ k (i -7) (by rw[K9];omega) Y;have u:B .sub (.I Y (i:Int)) (.I Y 15)=_:=Y8 i 15 V V;have s2:B .sub (.I Y (i:Int)) (.I Y 2)=_:=Y8 i 2 V V;have v:B .sub (.I Y (i:Int)) (.I Y 16)=_:=Y8 i 16 V V;have s7:B .sub (.I Y (i:Int)) (.I Y 7)=_:=Y8 i 7 V V;have⟨l,n,o,y⟩:=ap (Su (oJ m i) i) (by grind);have⟨c,aT,n1,t⟩:=ih (i+1) l n V y;refine⟨c,aT,n1, ?_⟩;have j:=bo (Su (oJ m i) i);unfold Su at o j;rw[<-aoS]at o j;generalize(oJ m i).getD (i -15) 0=w,(oJ m i).getD (i -2) 0=x2,(oJ m i).getD (i -16) 0=x16,(oJ m i).getD (i -7) 0=x7 at*;have c2:∀T,W N C 280 [.A pR,M x2,.A [.I Y 19,.I Y 61,.I Y 6]] T=_:=λT=>Nz x2 19 61 6 V V V V V T;have E:∀T,W N C 280 [.A pR,M w,.A [.I Y 1,.I Y 8,.I Y 7]] T=_:=λT=>Nz w 1 8 7 V V V V V T;obtain⟨A15,p⟩:∃A:Int,A=((i -15:Nat):Int):=⟨_,rfl⟩;obtain⟨A2,P⟩:∃A:Int,A=((i -2:Nat):Int):=⟨_,rfl⟩;obtain⟨A16,q⟩:∃A:Int,A=((i -16:Nat):Int):=⟨_,rfl⟩;obtain⟨A7,hA7⟩:∃A:Int,A=((i -7:Nat):Int):=⟨_,rfl⟩;rw[<-p]at u r;rw[<-P]at s2 i2;rw[<-q]at v s;rw[<-hA7]at s7 i7;have kd:=xR;rw[aj,aO fL];generalize hT:S++[de.M pR [] O]=T at*;generalize AV.sl .N 1 (pA iG)=KK,pR=a at*;simp at t z;simp[h3,h, -B,l2,lk,lJ,aJ,lA,l12,l9,l16,u,s2,v,s7,r,i2,s,i7,(λ_=>rfl:∀x:UInt64,aX T .C (.eZ .N [M x] 0)=J (M x)),kd,c2,E,aea,j,o];rw[ab fL];simp[z,t, -B]
def alg(l:List UInt64)(i:Nat)(h:i<l.length):nK 1 (.sl .N 1 (pA l)) (.I Y (i:Int))=J (.eZ .N [M (l.getD i 0)] 0):=by unfold nK;simp only[if_true,M9];rw[uB,ad9 h];rfl
def aH4(a b c d e f g h:UInt64):fh 1 (fg 8 [AV.I U 0]) [(0,M a),(1,M b),(2,M c),(3,M d),(4,M e),(5,M f),(6,M g),(7,M h)]=J [[M a],[M b],[M c],[M d],[M e],[M f],[M g],[M h]]:=by rfl
def Wv(j:List UInt64)(hws:j.length=80)(I m:Q)(v:W8)(S:Z)(ag:bV)(hw:d_ 1 m ag (pA j)):∀d i(f:Q),i+d=80->d_ 1 f ag (pA (v.rounds iG j i).l)->
 ∃g,(f=.sl .X 1 (pA (v.rounds iG j i).l)\/0<d->g=.sl .X 1 (pA (v.rounds iG j 80).l))/\DC N C (.L n_) ⟨[(1,I),(3,.P S.length 0),(7,m),(11,f),(12,.I Y (i:Nat))],ag,S.length⟩ (S++[.M pR [] O])=
  J (.E 4,⟨[(1,I),(3,.P S.length 0),(11,g)],ag,S.length⟩,S++[.M pR [] O]):=by
 have⟨l0,y,t,l3,l6,l9,l12,lA⟩:=Rh S;have z:fG (.sl .N 1 (pA iG))=J (.I Y 80):=rfl;intro d;induction d with
 |zero=>
  intro i f hi l;have e:i=80:=V;subst e;refine⟨f,λh=>h.resolve_right V, ?_⟩;rw[aj,aO jK];generalize S++[de.M pR [] O]=T,AV.sl .N 1 (pA iG)=P at*;simp[-B,y,z,lJ]
 |succ d p=>
  intro i f hi l;have h3:(i:Int)<80:=V;have n:=aR (i:=i) V;have er:v.rounds iG j (i+1)=(v.rounds iG j i).round (iG.getD i 0) (j.getD i 0):=rfl;have r:=alg iG i (by rw[show iG.length=80 from rfl];omega);have s:=A_ hw i V Y;have p:=p (i+1);rw[er]at p;generalize v.rounds iG j i=c,iG.getD i 0=k,j.getD i 0=w at*;have v0:nK 1 f (.I Y 0)=J (.eZ .N [M c.a] 0):=A_ l 0 (show 0<8 by omega) Y;have v1:nK 1 f (.I Y 1)=J (.eZ .N [M c.b] 0):=A_ l 1 (show 1<8 by omega) Y;have v2:nK 1 f (.I Y 2)=J (.eZ .N [M c.c] 0):=A_ l 2 (show 2<8 by omega) Y;have v3:nK 1 f (.I Y 3)=J (.eZ .N [M c.d] 0):=A_ l 3 (show 3<8 by omega) Y;have v4:nK 1 f (.I Y 4)=J (.eZ .N [M c.e] 0):=A_ l 4 (show 4<8 by omega) Y;have v5:nK 1 f (.I Y 5)=J (.eZ .N [M c.f] 0):=A_ l 5 (show 5<8 by omega) Y;have v6:nK 1 f (.I Y 6)=J (.eZ .N [M c.g] 0):=A_ l 6 (show 6<8 by omega) Y;have v7:nK 1 f (.I Y 7)=J (.eZ .N [M c.h] 0):=A_ l 7 (show 7<8 by omega) Y;have q:d_ 1 (.sl .X 1 (pA (c.round k w).l)) ag (pA (c.round k w).l):=.inr (.inl rfl);have⟨g,A,E⟩:=p _ V q;refine⟨g,λ_=>A (.inl rfl), ?_⟩;clear A;have o:=aH4 (c.t k w+c.u) c.a c.b c.c (c.d+c.t k w) c.e c.f c.g;have eR:pA (c.round k w).l=[[M (c.t k w+c.u)],[M c.a],[M c.b],[M c.c],[M (c.d+c.t k w)],[M c.e],[M c.f],[M c.g]]:=rfl;rw[<-eR]at o;have c4:∀T,W N C 281 [.A pR,M c.e,.A [.I Y 14,.I Y 18,.I Y 41]] T=_:=λT=>Ub c.e 14 18 41 V V V V V V T;have c0:∀T,W N C 281 [.A pR,M c.a,.A [.I Y 28,.I Y 34,.I Y 39]] T=_:=λT=>Ub c.a 28 34 39 V V V V V V T;unfold W8.t W8.u at o;have kd:=xR;generalize pA (c.round k w).l=a at*;rw[aj,aO jK];generalize hT:S++[de.M pR [] O]=T at*;have u:∀x:UInt64,aX T .C (.eZ .N [M x] 0)=J (M x):=λ_=>rfl;generalize AV.sl .N 1 (pA iG)=P,pR=b at*;simp at E n;simp at o;simp[h3, -B,y,z,lJ,aJ,lA,l6,l3,t,v0,v1,v2,v3,v4,v5,v6,v7,r,s,u,kd,c4,c0,aea,aH5,o];rw[ab jK];simp[n,E, -B]
def af5(s v:List UInt64)(P:s.length=8)(hv:v.length=8)(S:Z):∀d i(b:Q)(ag:bV),i+d=8->d_ 1 b ag (pA ((List.zipWith (·+·) s v).take i))->
 ∃a aT,d_ 1 a aT (pA (List.zipWith (·+·) s v))/\DC N C (.L oa) ⟨[(1,.sl .N 1 (pA s)),(3,.P S.length 0),(11,.sl .X 1 (pA v)),(15,b),(16,.I Y (i:Nat))],ag,S.length⟩ (S++[.M pR [] O])=
  J (.E 6,⟨[(15,a)],aT,S.length⟩,S++[.M pR [] O]):=by
 have⟨l0,l2,k,l3,l6,l9,t,lA⟩:=Rh S;have zl:(List.zipWith (·+·) s v).length=8:=by grind
 intro d;induction d with
 |zero=>
  intro i b ag q f;have e:i=8:=V;subst e;rw[oL V]at f;refine⟨b,ag,f, ?_⟩;simp[aj,aO jL]
 |succ d g=>
  intro i b ag q f;have p:(i:Int)<8:=V;have c:=aR (i:=i) V;have h:=alg s i V;have j:=A_ (ag:=ag) (.inr (.inl rfl):d_ 1 (.sl .X 1 (pA v)) ag (pA v)) i V Y;have r:(List.zipWith (·+·) s v)[i]? =J (s.getD i 0+v.getD i 0):=by grind
  have g:=g (i+1);rw[(by rw[wx,r];rfl:(List.zipWith (·+·) s v).take (i+1)=(List.zipWith (·+·) s v).take i++[s.getD i 0+v.getD i 0]),ad8]at g;generalize s.getD i 0=x,v.getD i 0=y at*;have⟨w,z,m,n⟩:=d_.app f (xs:=[[M (x+y)]]) ca (by simp;omega) .X (S++[.M pR [] O]);have⟨a,aT,u,l⟩:=g w z V n;refine⟨a,aT,u, ?_⟩;have o:fh 1 [[AV.I U 0]] [(0,M (x+y))]=J [[M (x+y)]]:=rfl;rw[aj,aO jL];generalize I:S++[de.M pR [] O]=T at*;generalize AV.sl .N 1 (pA s)=A,AV.sl .X 1 (pA v)=E at*;simp at l c;simp[p, -B,lJ,aJ,k,h,j,(λ_=>rfl:∀x:UInt64,aX T .C (.eZ .N [M x] 0)=J (M x)),aea,o,m];rw[ab jL];simp[c,l, -B]
def Y_(v:W8)(m:X)(q:128<=m.length)(S:Z):∃r,NW 1 r (pA (v.sa iG m).l)/\aG r=G/\W N C 259 [.A pR,.sl .N 1 (pA v.l),dw m] S=J (r,S):=by
 have s:=xR;have u:=K_;have⟨w,b,n,f⟩:=af2 m q (.sl .N 1 (pA v.l)) S 80 0 .aw [] V (.inl ⟨rfl,rfl⟩);have g:eK 1 b (S++[.M pR [] O]) (.sl .X 1 []) (.sl .N 1 (pA v.l))=J (.sl (.fr b.length) 1 (pA v.l),b++[J 8],S++[.M pR [] O]):=rfl;have o:d_ 1 (.sl (.fr b.length) 1 (pA v.l)) (b++[J 8]) (pA (v.rounds iG (oJ m 80) 0).l):=.inr (.inr ⟨b.length,rfl,by simp;rfl⟩);have⟨v2,h,d⟩:=Wv (oJ m 80) ca (.sl .N 1 (pA v.l)) w v S (b++[J 8]) (n.more _) 80 0 _ V o;rw[h (.inr V)]at d;have⟨E,I,c,l⟩:=af5 v.l (v.rounds iG (oJ m 80) 80).l rfl rfl S 8 0 .aw (b++[J 8]) V (.inl ⟨rfl,rfl⟩);rw[(rfl:List.zipWith (·+·) v.l (v.rounds iG (oJ m 80) 80).l=(v.sa iG m).l)]at c;have⟨r,t,i,j,k⟩:=c.res (Mz _);rw[d_.nr c]at i;have A:=d_.nt c;have z:=d_.nr c;refine⟨r,j,k, ?_⟩;have e:fh 1 (fg 0 [AV.I U 0]) []=J []:=rfl;rw[LB aA3];generalize p:S++[de.M pR [] O]=T at*;have P:T.take S.length=S:=by grind
 generalize pR=a,pA v.l=y,pA (v.rounds iG (oJ m 80) 80).l=x at*;simp at f d l e;simp[u,s,p];rw[ab fL];simp[f,e,g];rw[ab jK];simp[d];rw[ab jL];simp_all
def af3(b c:X)(h:128<=b.length){i:Nat}(a:i<16):za (b++c) i=za b i:=by grind [za]
def Y9(b c:X)(h:128<=b.length):∀n,oJ (b++c) n=oJ b n
 |0=>rfl
 |n+1=>by
  rw[oJ,oJ,Y9 b c h n];by_cases a:n<16;·rw[if_pos a,if_pos a,af3 b c h a]
  ·rw[if_neg a,if_neg a]
theorem alf(v:W8)(a:List UInt64)(b c:X)(h:128<=b.length):v.sa a (b++c)=v.sa a b:=by unfold W8.sa;rw[Y9 b c h]
def af4(v:W8)(a:List UInt64)(b:X)(h:128<=b.length):v.sa a (b.take 128)=v.sa a b:=by grind [alf,List.take_append_drop]
theorem abW(n:Nat):(fX n).length=17+(239 -n %128)%128:=by grind [fX,B5]
def MA:∀k n,Ft (k+1) n=cw (n/256^k)::Ft k n
 |0,n=>by simp[Ft]
 |k+1,n=>by rw[show Ft (k+1+1) n=Ft (k+1) (n/256)++[cw n]from rfl,MA k (n/256),FX,th,show 256*256^k=256^(k+1)by rw[uo,uD]];rfl
def aCH(k:Nat)(h:k<100):dh Y (((k:Nat):Int) -1)=(k:Int) -1:=cF V
def aCI(n:Nat):oI L (.I U (n:Int))=J (.I L (((cw n).toNat:Nat):Int)):=by rfl
def aqK(a k:Nat)(h:k<8):B .shr (.I U (a:Int)) (.I Y ((8*k:Nat):Int))=J (.I U ((a/256^k:Nat):Int)):=by
 show(if((8*k:Nat):Int)<0 then D else J (AV.I U ((a:Int).fdiv (2^(min ((8*k:Nat):Int).toNat 64)))))=_;have e:(256:Nat)^k=2^(8*k):=by rw[uE]
 grind
structure aoT(p:Q)(b:X):Prop where
 el:∀T,∃z,bZ T p=J (z,cE b)/\(cE b≠[]->z=1)
 ln:fG p=J (.I Y (b.length:Int))
 ga:∀T,bG T p=J p
 lk:∀T,bK T p=T
 ul:∀T T',bh T T' p=T'
 no:dT p=p
def alh(b:X):aoT (dw b) b:=by
 refine⟨λT=>?_,by simp,λT=>by simp,λT=>by simp,λT c=>by simp,by simp⟩;cases b with
 |nil=>exact⟨1,rfl,λ_=>rfl⟩
 |cons a r=>exact⟨1,rfl,λ_=>rfl⟩
def af6(i:Nat)(b:X):aoT (.sl (.iq i) 1 (cE b)) b:=⟨λ_=>⟨1,rfl,λ_=>rfl⟩,by simp[fG],λ_=>rfl,λ_=>rfl,λ_ _=>rfl,by rfl⟩
def abX(p:Q)(b:X)(x:b.length<1000000000)(S:Z):∀d k(e:Q)(ag:bV),k+d=(239 -b.length %128)%128->ml e ag (b++128::fg k 0)->
 ∃c aT,ml c aT (b++128::fg ((239 -b.length %128)%128) 0)/\DC N C (.L yJ) ⟨[(1,p),(2,.P S.length 0),(5,e),(6,.I Y 128)],ag,S.length⟩ (S++[.M pR [] O])=
  J (.E 0,⟨[(1,p),(2,.P S.length 0),(5,c),(6,.I Y 128)],aT,S.length⟩,S++[.M pR [] O]):=by
 have g:aX (S++[.M pR [] O]) .C (.P S.length 15)=J (.I Y 16):=by rw[ky];rfl
 intro d;induction d with
 |zero=>
  intro k e ag r f;have q:k=(239 -b.length %128)%128:=V;have h:=d_.len f;have o:(cE (b++128::fg k 0)).length=b.length+1+k:=by simp;omega
  rw[o]at h;have i:(((b.length+1+k:Nat):Int)+16).tmod 128=0:=by grind
  have j:dh Y (((b.length+1+k:Nat):Int)+16)=((b.length+1+k:Nat):Int)+16:=cF V;rw[<-q];refine⟨e,ag,f, ?_⟩;rw[aj,aO lW];generalize((b.length+1+k:Nat):Int)=a at*;simp[h,g,j,i]
 |succ d s=>
  intro k e ag r f;have h:=d_.len f;rw[(by simp;omega:(cE (b++128::List.replicate k 0)).length=b.length+1+k)]at h;have i:¬(((b.length+1+k:Nat):Int)+16).tmod 128=0:=by grind
  have j:dh Y (((b.length+1+k:Nat):Int)+16)=((b.length+1+k:Nat):Int)+16:=cF V;have⟨u,v,l,m⟩:=f.one 0 (by grind) (S++[.M pR [] O]);rw[(by grind [List.replicate_succ']:b++128::List.replicate k 0++[0]=b++128::List.replicate (k+1) (0:UInt8))]at m;have⟨c,aT,t,n⟩:=s (k+1) u v V m;refine⟨c,aT,t, ?_⟩;have w:(((0:UInt8).toNat:Nat):Int)=0:=rfl;rw[w]at l;rw[aj,aO lW];generalize((b.length+1+k:Nat):Int)=a,S++[de.M pR [] O]=T at*;try simp at n
  simp[h,g,j,i,l];rw[ab lW];simp[n]
def abY(d:Nat)(S:Z):∀k(s:X)(f:Q)(ag:bV),k<=8->s.length+k<1000000000->ml f ag s->
 ∃e aT,ml e aT (s++Ft k d)/\DC N C (.L sH) ⟨[(2,.P S.length 0),(5,f),(6,.I Y 128),(7,.I U (d:Int)),(8,.I Y ((k:Int) -1))],ag,S.length⟩ (S++[.M pR [] O])=
  J (.E 2,⟨[(2,.P S.length 0),(5,e),(6,.I Y 128)],aT,S.length⟩,S++[.M pR [] O]):=by
 intro k;induction k with
 |zero=>
  intro s f ag m n g;refine⟨f,ag,by rw[Ft,F8];exact g, ?_⟩;simp[aj,aO h_]
 |succ k o=>
  intro s f ag m n g;rw[(V:(((k+1:Nat):Int) -1)=(k:Int))];have⟨r,w,h,i⟩:=g.one (cw (d/256^k)) V (S++[.M pR [] O]);have⟨e,aT,x,q⟩:=o (s++[cw (d/256^k)]) r w V (by grind) i;refine⟨e,aT,by rw[MA];simp_all, ?_⟩;have p:B .mul (.I Y 8) (.I Y (k:Int))=J (.I Y ((8*k:Nat):Int)):=by show J (AV.I Y (dh Y (8*(k:Int))))=_;rw[cF V];congr 2
  have v:=aqK d k V;have j:=aCI (d/256^k);have l:∀a b,B .geq (.I Y a) (.I Y b)=J (.B (ck (a≥b))):=λ_ _=>rfl;have t:B .sub (.I Y (k:Int)) (.I Y 1)=J (.I Y ((k:Int) -1)):=by show J (AV.I Y (dh Y ((k:Int) -1)))=_;rw[aCH k V]
  generalize cw (d/256^k)=u,((8*k:Nat):Int)=A,((d/256^k:Nat):Int)=c at*;rw[aj,aO h_];generalize S++[de.M pR [] O]=T at*;try simp at q
  simp[(V:(0:Int)<=(k:Int)),(V:¬(8:Int)<=(k:Int)), -B, -oI,l,p,v,j,h,t];rw[ab h_];trivial
def Za(c:Nat)(S:Z):∀j(s:X)(e:Q)(ag:bV),j<=8->s.length+8+j<1000000000->ml e ag s->
 ∃d aT,ml d aT (s++(fg j 0++Ft 8 c))/\DC N C (.L sH) ⟨[(2,.P S.length 0),(5,e),(6,.I Y 128),(7,.I U (c:Int)),(8,.I Y ((j:Int)+7))],ag,S.length⟩ (S++[.M pR [] O])=
  J (.E 2,⟨[(2,.P S.length 0),(5,d),(6,.I Y 128)],aT,S.length⟩,S++[.M pR [] O]):=by
 intro j;induction j with
 |zero=>
  intro s e ag m n f;exact abY c S 8 s e ag V V f
 |succ j o=>
  intro s e ag m n f;rw[(V:(((j+1:Nat):Int)+7)=(j:Int)+8)];have k:(0:Int)<=(j:Int)+8:=V;have l:(8:Int)<=(j:Int)+8:=V;have⟨q,t,g,h⟩:=f.one 0 V (S++[.M pR [] O]);have⟨d,aT,x,p⟩:=o (s++[0]) q t V (by grind) h;refine⟨d,aT,by grind, ?_⟩;have i:∀a b,B .geq (.I Y a) (.I Y b)=J (.B (ck (a≥b))):=λ_ _=>rfl;have r:B .sub (.I Y ((j:Int)+8)) (.I Y 1)=J (.I Y ((j:Int)+7)):=by
   show J (AV.I Y (dh Y ((j:Int)+8 -1)))=_;rw[cF V]
   grind
  have u:(((0:UInt8).toNat:Nat):Int)=0:=rfl;rw[u]at g;generalize(j:Int)+7=v,(j:Int)+8=w at*;rw[aj,aO h_];generalize S++[de.M pR [] O]=T at*;try simp at p
  simp[k,l, -B, -oI,i,g,r];rw[ab h_];trivial
def HL(h:Q)(v:W8):Prop:=h=.sl .N 1 (pA v.l)\/∃ag,d_ 1 h ag (pA v.l)
def HL.Gh{h:Q}{v:W8}(a:HL h v)(T:Z):bG T h=J (.sl .N 1 (pA v.l))\/bG T h=J (.sl .X 1 (pA v.l)):=by
 rcases a with rfl|⟨t,a⟩;·exact .inl rfl
 ·rcases a with⟨b,_⟩|rfl|⟨k,rfl,_⟩
  ·trivial
  ·exact .inr rfl
  ·exact .inl rfl
theorem ali(v:W8):dT (.sl .N 1 (pA v.l))=.sl .N 1 (pA v.l)/\dT (.sl .X 1 (pA v.l))=.sl .N 1 (pA v.l):=⟨rfl,rfl⟩
def HL.lock{h:Q}{v:W8}(a:HL h v)(T:Z):bK T h=T:=by
 rcases a with rfl|⟨t,a⟩;·rfl
 ·exact d_.lock a T
def HL.tj{h:Q}{v:W8}(a:HL h v)(T b:Z):bh T b h=b:=by
 rcases a with rfl|⟨t,a⟩;·rfl
 ·exact d_.tj a T b
def HL.ix{h:Q}{v:W8}(a:HL h v)(i:Nat)(b:i<8):nK 1 h (.I Y (i:Int))=J (.eZ .N [M (v.l.getD i 0)] 0):=by
 rcases a with rfl|⟨t,a⟩;·exact alg v.l i b
 ·exact A_ a i b Y
def aoU(r:f_)(a:X)(h:128<=a.length):∃q,H6 1 (.sl r 1 (cE a)) D (J (.I Y 128))=J (.sl q 1 (cE (a.take 128)))/\(q=r\/q=tz r):=by
 have b:(List.take 128 (cE a)).drop 0=cE (a.take 128):=by simp[cE]
 grind [H6,kZ,xG]
def Ww(S:Z):∀n(d:X)(r:f_)(h:Q)(v:W8)(ag:bV),d.length=128*n->(r=.N\/r=.X\/∃k,r=.fr k)->HL h v->
 ∃j aT,HL j (Ri n v d)/\DC N C (.L yK) ⟨[(2,.P S.length 0),(5,.sl r 1 (cE d)),(6,.I Y 128),(9,h)],ag,S.length⟩ (S++[.M pR [] O])=
  J (.E 4,⟨[(2,.P S.length 0),(9,j)],aT,S.length⟩,S++[.M pR [] O]):=by
 have⟨l0,l2,l16,l3,l6,l9,l12,lA⟩:=Rh S;have gJ:∀a b,B .gtr (.I Y a) (.I Y b)=J (.B (ck (a>b))):=λ_ _=>rfl;intro n;induction n with
 |zero=>
  intro d r h v ag hM x i;have e:=XE V;subst e;refine⟨h,ag,i, ?_⟩;simp[aj,aO lX,fG,cE]
 |succ n ih=>
  intro d r h v ag hM x i;have f:128<=d.length:=V;have hp:(0:Int)<(d.length:Int):=V;have s:0<d.length:=V;have⟨q,s1,hq⟩:=aoU r d f;have y:=aeb r d f;have t:tz r=.N:=by rcases x with rfl|rfl|⟨k,rfl⟩<;>rfl
  have g:q=.N\/q=.X\/∃k,q=.fr k:=by grind
  have⟨o,u,b2,z⟩:=Y_ v (d.take 128) (by simp_all) (S++[.M pR [] O]);rw[af4 v iG d f]at u;have⟨o2,t2,A,E⟩:=u.take ag;have⟨j,aT,n1,n2⟩:=ih (d.drop 128) .N o2 (v.sa iG d) (ag++t2) (by grind) (.inl rfl) (.inr ⟨_,E⟩);refine⟨j,aT,n1, ?_⟩;have tn:d.take 128≠[]:=by grind [List.length_nil]
  have gq:∀T,(bG T (.sl q 1 (cE (d.take 128)))).map dT=J (dw (d.take 128)):=λT=>by
   have w:dT (.sl .N 1 (cE (d.take 128)))=dw (d.take 128):=by cases hh:d.take 128<;>rfl
   rcases g with rfl|rfl|⟨k,rfl⟩;·exact congrArg J w
   ·exact congrArg J (by cases hh:d.take 128<;>rfl)
   ·exact congrArg J w
  obtain⟨p,g1,g2⟩:∃p,(∀T,bG T (.sl q 1 (cE (d.take 128)))=J p)/\dT p=dw (d.take 128):=by rcases g with rfl|rfl|⟨k,rfl⟩;all_goals simp_all[bG]
  have lm:∀T,bK T (.sl q 1 (cE (d.take 128)))=T:=λT=>by rfl
  have um:∀T l,bh T l (.sl q 1 (cE (d.take 128)))=l:=λT l=>by rfl
  obtain⟨m,I,P⟩:∃m,bG (S++[.M pR [] O]) h=J m/\dT m=.sl .N 1 (pA v.l):=by rcases i.Gh (S++[.M pR [] O])with e|e;all_goals grind [ali]
  have lh:=i.lock;have uh:=i.tj;have kd:=xR;rw[t]at y;rw[aj,aO lX];generalize AV.sl q 1 (cE (d.take 128))=MQ,AV.sl .N 1 (pA v.l)=DV,hT:S++[de.M pR [] O]=T,pR=c at*;try simp at n2
  simp[(by simp[fG]:fG (.sl r 1 (cE d))=some (.I .i64 (d.length:Int))),s, -B,gJ,lA,s1,y,kd,g1,g2,lm,um,I,P,lh,uh,cQ,b_,z,A];rw[ab lX];trivial
def gJ(a b:Int):B .geq (.I Y a) (.I Y b)=J (.B (ck (a≥b))):=rfl
def abZ(S:Z)(h:Q)(v:W8)(c:HL h v)(i:Nat)(p:i<8):∀k(s:X)(e:Q)(ag:bV),k<=8->s.length+k<1000->ml e ag s->
 ∃d aT,ml d aT (s++Ft k (v.l.getD i 0).toNat)/\DC N C (.L yL) ⟨[(2,.P S.length 0),(9,h),(10,e),(11,.I Y (i:Nat)),(12,.I Y (8*(k:Int) -8))],ag,S.length⟩ (S++[.M pR [] O])=
  J (.E 8,⟨[(2,.P S.length 0),(9,h),(10,d),(11,.I Y (i:Nat))],aT,S.length⟩,S++[.M pR [] O]):=by
 have w:=c.ix i p;generalize v.l.getD i 0=x at*;have f:M x=.I U ((x.toNat:Nat):Int):=rfl;intro k;induction k with
 |zero=>
  intro s e ag q r g;refine⟨e,ag,by rw[Ft,F8];exact g, ?_⟩;simp[aj,aO ju]
 |succ k t=>
  intro s e ag q r g;rw[(V:8*((k+1:Nat):Int) -8=((8*k:Nat):Int))];have o:(0:Int)<=((8*k:Nat):Int):=V;have⟨z,I,l,m⟩:=g.one (cw (x.toNat/256^k)) V (S++[.M pR [] O]);have⟨d,aT,P,y⟩:=t (s++[cw (x.toNat/256^k)]) z I V (by grind) m;refine⟨d,aT,by rw[MA];simp_all, ?_⟩;have j:=aqK x.toNat k V;rw[<-f]at j;have n:=aCI (x.toNat/256^k);have E:B .sub (.I Y ((8*k:Nat):Int)) (.I Y 8)=J (.I Y (8*(k:Int) -8)):=by show J (AV.I Y (dh Y (((8*k:Nat):Int) -8)))=_;rw[cF V];congr 2
  generalize cw (x.toNat/256^k)=u,((8*k:Nat):Int)=A,8*(k:Int) -8=b,((x.toNat/256^k:Nat):Int)=a at*;rw[aj,aO ju];generalize S++[de.M pR [] O]=T at*;unfold M at*;try simp at y
  simp[o, -B, -oI,gJ,w,(rfl:aX T .C (.eZ .N [M x] 0)=J (M x)),j,n,l,E];rw[ab ju];trivial
def af7(S:Z)(h:Q)(v:W8)(a:HL h v):∀d i(c:Q)(ag:bV),i+d=8->ml c ag ((v.l.take i).flatMap λx=>Ft 8 x.toNat)->
 ∃b aT,ml b aT v.tX/\DC N C (.L yM) ⟨[(2,.P S.length 0),(9,h),(10,c),(11,.I Y (i:Nat))],ag,S.length⟩ (S++[.M pR [] O])=
  J (.E 6,⟨[(10,b)],aT,S.length⟩,S++[.M pR [] O]):=by
 have⟨p,A,r,E,I,P,q,lA⟩:=Rh S;have z:∀l:List UInt64,(l.flatMap λx=>Ft 8 x.toNat).length=8*l.length:=by intro l;induction l<;>grind [B5]
 intro d;induction d with
 |zero=>
  intro i c ag n g;have e:i=8:=V;subst e;refine⟨c,ag,g, ?_⟩;simp_all[aj,lY]
 |succ d o=>
  intro i c ag n g;have f:=aR (i:=i) V;have u:B .sub (.I Y 64) (.I Y 8)=J (.I Y 56):=rfl;have⟨t,w,j,k⟩:=abZ S h v a i V 8 _ c ag V (by grind) g;have y:(v.l.take i).flatMap (λx=>Ft 8 x.toNat)++Ft 8 (v.l.getD i 0).toNat=(v.l.take (i+1)).flatMap λx=>Ft 8 x.toNat:=by rw[wx,Ba (show i<v.l.length from by show i<8;omega)];simp
  rw[y]at j;have⟨b,aT,s,m⟩:=o (i+1) t w V j;refine⟨b,aT,s, ?_⟩;rw[(V:8*((8:Nat):Int) -8=56)]at k;rw[aj,aO lY];generalize S++[de.M pR [] O]=T at*;simp at m f;simp[(V:(i:Int)<8), -B,lJ,p,u];rw[ab ju];simp[k, -B,aJ];rw[ab lY];simp[f,m, -B]
def af8{p:Q}{b:X}(o:aoT p b)(hb:b.length<100000000)(S:Z):∃r,Ib r (bM b)/\W N C 211 [.A pR,p] S=J (r,S):=by
 have kd:=xR;have kl:=K_;have⟨l0,l2,l16,l3,l6,l9,l12,lA⟩:=Rh S;have l1:aX (S++[.M pR [] O]) .C (.P S.length 1)=J (.sl .N 1 (pA qt.l)):=by rw[ky];rfl
 have g:aX (S++[.M pR [] O]) .C (.P S.length 15)=J (.I Y 16):=by rw[ky];rfl
 have f:ml (.sl .X 1 []) [] []:=.inr (.inl rfl);have⟨z,ez⟩:=o.el (S++[.M pR [] O]);have pl:=o.ln;have⟨o1,t1,s,a2⟩:=d_.N6 f (xs:=cE b) (x:=p) (S:=S++[.M pR [] O]) (by simp[cE];omega) ⟨z,ez⟩;have e:ml o1 t1 b:=by trivial
 have⟨o2,t2,i,u⟩:=e.one 128 V (S++[.M pR [] O]);have⟨o3,t3,v,w⟩:=abX p b V S ((239 -b.length %128)%128) 0 o2 t2 V u;have⟨o4,t4,l,m⟩:=Za (8*b.length) S 8 _ o3 t3 V (by grind) v;have I:b++128::fg ((239 -b.length %128)%128) 0++(fg 8 0++Ft 8 (8*b.length))=b++fX b.length:=by simp[fX]
 rw[I]at l;obtain⟨c,hN⟩:∃c,(b++fX b.length).length=128*c:=⟨(b++fX b.length).length/128,by grind [abW]⟩;have ed:bM b=(Ri c qt (b++fX b.length)).tX:=by grind [bM]
 have hne:b++fX b.length≠[]:=by grind
 obtain⟨r,P,hr⟩:∃r,o4=.sl r 1 (cE (b++fX b.length))/\(r=.N\/r=.X\/∃k,r=.fr k):=by rcases l with⟨h,_⟩|h|⟨k,h,_⟩;all_goals grind [tW]
 have⟨h5,t5,A,n⟩:=Ww S c (b++fX b.length) r (.sl .N 1 (pA qt.l)) qt t4 hN hr (.inl rfl);rw[<-P]at n;have⟨o6,t6,f1,f2⟩:=af7 S h5 _ A 8 0 .aw t5 V (.inl ⟨rfl,rfl⟩);have⟨q,t,q1,q2,q3,q4,q5⟩:=f1.fin;refine⟨q,by simp_all, ?_⟩;have j:fh 1 (fg 0 [AV.I L 0]) []=J []:=rfl;have d:(((128:UInt8).toNat:Nat):Int)=128:=rfl;rw[d]at i;have w8:dh U (b.length:Int)=(b.length:Int):=by show(b.length:Int)%2^64=_;omega
 have m8:B .mul (.I U (b.length:Int)) (.I U 8)=J (.I U ((8*b.length:Nat):Int)):=by
  show J (AV.I U (dh U ((b.length:Int)*8)))=_;have:dh U ((b.length:Int)*8)=((8*b.length:Nat):Int):=by show((b.length:Int)*8)%2^64=_;omega
  rw[this]
 have m2:B .mul (.I Y 2) (.I Y 64)=J (.I Y 128):=rfl;have s1:B .sub (.I Y 16) (.I Y 1)=J (.I Y 15):=rfl;have E:((8:Nat):Int)+7=15:=V;rw[E]at m;have y:((0:Nat):Int)=0:=rfl;rw[y]at f2;rw[jN aAi];generalize((8*b.length:Nat):Int)=L8,hT:S++[de.M pR [] O]=T at*;have tk:T.take S.length=S:=by grind
 generalize AV.sl .N 1 (pA qt.l)=H0,pR=a at*;simp at j;simp[kl,kd,hT,j,s,i,l0,m2, -B];rw[ab lW];simp[w,pl,w8,m8,g,s1, -B];rw[ab h_];simp[m,l1, -B];rw[ab lX];simp[n, -B];rw[ab lY];simp_all
def auy:fh 1 (fg 8 [AV.I U 0]) [(0,.I U 7640891576956012808),(1,.I U 13503953896175478587),(2,.I U 4354685564936845355),(3,.I U 11912009170470909681),(4,.I U 5840696475078001361),(5,.I U 11170449401992604703),(6,.I U 2270897969802886507),(7,.I U 6620516959819538809)]=J (pA qt.l):=by rfl
def auz:fh 1 (fg 80 [AV.I U 0]) [(0,.I U 4794697086780616226),(1,.I U 8158064640168781261),(2,.I U 13096744586834688815),(3,.I U 16840607885511220156),(4,.I U 4131703408338449720),(5,.I U 6480981068601479193),(6,.I U 10538285296894168987),(7,.I U 12329834152419229976),(8,.I U 15566598209576043074),(9,.I U 1334009975649890238),(10,.I U 2608012711638119052),(11,.I U 6128411473006802146),(12,.I U 8268148722764581231),(13,.I U 9286055187155687089),(14,.I U 11230858885718282805),(15,.I U 13951009754708518548),(16,.I U 16472876342353939154),(17,.I U 17275323862435702243),(18,.I U 1135362057144423861),(19,.I U 2597628984639134821),(20,.I U 3308224258029322869),(21,.I U 5365058923640841347),(22,.I U 6679025012923562964),(23,.I U 8573033837759648693),(24,.I U 10970295158949994411),(25,.I U 12119686244451234320),(26,.I U 12683024718118986047),(27,.I U 13788192230050041572),(28,.I U 14330467153632333762),(29,.I U 15395433587784984357),(30,.I U 489312712824947311),(31,.I U 1452737877330783856),(32,.I U 2861767655752347644),(33,.I U 3322285676063803686),(34,.I U 5560940570517711597),(35,.I U 5996557281743188959),(36,.I U 7280758554555802590),(37,.I U 8532644243296465576),(38,.I U 9350256976987008742),(39,.I U 10552545826968843579),(40,.I U 11727347734174303076),(41,.I U 12113106623233404929),(42,.I U 14000437183269869457),(43,.I U 14369950271660146224),(44,.I U 15101387698204529176),(45,.I U 15463397548674623760),(46,.I U 17586052441742319658),(47,.I U 1182934255886127544),(48,.I U 1847814050463011016),(49,.I U 2177327727835720531),(50,.I U 2830643537854262169),(51,.I U 3796741975233480872),(52,.I U 4115178125766777443),(53,.I U 5681478168544905931),(54,.I U 6601373596472566643),(55,.I U 7507060721942968483),(56,.I U 8399075790359081724),(57,.I U 8693463985226723168),(58,.I U 9568029438360202098),(59,.I U 10144078919501101548),(60,.I U 10430055236837252648),(61,.I U 11840083180663258601),(62,.I U 13761210420658862357),(63,.I U 14299343276471374635),(64,.I U 14566680578165727644),(65,.I U 15097957966210449927),(66,.I U 16922976911328602910),(67,.I U 17689382322260857208),(68,.I U 500013540394364858),(69,.I U 748580250866718886),(70,.I U 1242879168328830382),(71,.I U 1977374033974150939),(72,.I U 2944078676154940804),(73,.I U 3659926193048069267),(74,.I U 4368137639120453308),(75,.I U 4836135668995329356),(76,.I U 5532061633213252278),(77,.I U 6448918945643986474),(78,.I U 6902733635092675308),(79,.I U 7801388544844847127)]=J (pA iG):=by kernel_rfl
def kdH(a b:kp):K:=[.I Y 64,.sl .X 1 a,.sl .X 1 b,.I Y 28,.I Y 34,.I Y 39,.I Y 14,.I Y 18,.I Y 41,.I Y 1,.I Y 8,.I Y 7,.I Y 19,.I Y 61,.I Y 6,.I Y 16,.I U 18446744073709551615]
def auA(a b:kp):dk G6 [(0,1,.I Y 64),(1,1,.sl .X 1 a),(2,1,.sl .X 1 b),(3,3,.A [.I Y 28,.I Y 34,.I Y 39]),(6,3,.A [.I Y 14,.I Y 18,.I Y 41]),(9,3,.A [.I Y 1,.I Y 8,.I Y 7]),(12,3,.A [.I Y 19,.I Y 61,.I Y 6]),(15,1,.I Y 16),(16,1,.I U 18446744073709551615)]=J (kdH a b):=by simp[dk,aQ,aV,kdH]
def Zb(S:Z):W N C 212 [] S=J (.A pR,S):=by
 have f:=auy;have h:=auz;have g:=auA (pA qt.l) (pA iG);have k:(kdH (pA qt.l) (pA iG)).length=17:=rfl;have p:(kdH (pA qt.l) (pA iG)).map aV=kdH (pA qt.l) (pA iG):=rfl;have q:=Mz qt.l;have r:=Mz iG;have l:dJ (kdH (pA qt.l) (pA iG))=G:=by rfl
 have n:cj (.A (kdH (pA qt.l) (pA iG)))=.A pR:=rfl;have e:=Bu (S:=S) (T:=S) rfl l [.M G6 [] O] 0 [] S.length 17;simp only[Tn,To]at e;rw[if_pos ⟨k,by decide⟩,dX (by rfl)]at e;have m:aX (S++[.M (kdH (pA qt.l) (pA iG)) [] O]) (.A 17) (.P S.length 0)=J (.A (kdH (pA qt.l) (pA iG))):=by simp_all[fW]
 have j:=xR;have o:dv 212 [] [.A (kdH (pA qt.l) (pA iG))] S (S++[.M (kdH (pA qt.l) (pA iG)) [] O])=J (.A pR,S):=by simp[tE,n,cI,j]
 have i:∀a b c,dk [.I Y 0,.I Y 0,.I Y 0] [(0,1,.I Y a),(1,1,.I Y b),(2,1,.I Y c)]=J [.I Y a,.I Y b,.I Y c]:=λ_ _ _=>rfl;rw[XC aAj];generalize pA qt.l=A,pA iG=d at*;generalize kdH A d=E at*;simp at f h g;simp[f,h,i,g,e,m,o]
def ab0(b:X):(bM b).length=64:=by unfold bM W8.tX;rw[OL];rfl
def NA{p:Q}{b:X}(d:aoT p b)(u:b.length<100000000)(S:Z):W N C 144 [p] S=J (.A (R (bM b)),S):=by
 have j:=ab0 b;have v:bw.length=64:=rfl;have⟨r,q,i⟩:=af8 d u (S++[.M bw [] O,.M bw [] O]);have⟨o,t,k,l⟩:=q.1.take [];have⟨z,T,n⟩:=d_.elems l (S++[.M bw [] O,.M bw [] O]);have g:=Zb (S++[.M bw [] O,.M bw [] O]);generalize bM b=s at*;have P:=n (by grind [tW]);subst P;have w:=xR;have y:=d.ga;have A:=d.lk;have I:=d.ul;have E:=d.no;have fl:((cE s).take 64).flatten=R s:=by simp_all[oL,GD]
 have h:uX S.length (S++[.M bw [] O,.M bw [] O]) 1 (.cg (S.length+1) 0 64 64 1) o=J (.I Y 64,S++[.M bw [] O,.M (R s) [] O]):=by simp_all[uX,B8]
 have m:=aF s;have x:aX (S++[.M bw [] O,.M (R s) [] O]) (.A 64) (.P (S.length+1) 0)=J (.A (R s)):=by simp_all
 have e:=λc=>Bu (S:=S) rfl m.br [.M bw [] O,.M (R s) [] O] 0 c S.length 64;have f:aX (S++[.M (R s) [] O,.M (R s) [] O]) (.A 64) (.P S.length 0)=J (.A (R s)):=by simp_all
 simp only[Tn,To]at e;simp only[(dX (by simp[j,v]):aQ bw 0 (R s)=R s)]at e;have e:=λc=>(e c).trans (if_pos ⟨by simp[j],by decide⟩);rw[jC azD];generalize pR=a at*;try simp at i
 try simp at h
 try simp at g
 simp[g,w,y,A,I,E,cQ,b_,i,k,qq,h,x,e,f]
def Rm(b:X)(k:b.length<100000000)(S:Z):W N C 142 [dw b] S=J (.A (R (pB b)),S):=by
 have m:=λT=>NA (alh b) k T;have i:=λT=>VY (bM b) (Dq b) T;rw[show ig 32 (dp (bM b)%qN)=pB b from rfl]at i;have j:=Ji b;have h:cU (R (bM b)):=aF _;have g:(R (pB b)).length=32:=by rfl
 have f:cU (R (pB b)):=aF _;have l:aK.length=32:=rfl;generalize R (pB b)=d,R (bM b)=c,dw b=a at*;rw[jC azC];generalize n:aK=e at*;simp-implicitDefEqProofs [m,j.NP,i,h,g,f,bA g f,l, -B, -AV.cells, -aW]
def cpB(x:X)(i:Nat):X:=x.take i++fg (32 -i) 0
theorem Wz(x:X)(i:Nat)(a:32<=x.length)(h:i<=32):(cpB x i).length=32:=by simp[cpB];omega
theorem Zk(x:X):cpB x 32=x.take 32:=by simp[cpB]
theorem aeh(x:X)(i:Nat)(b:32<=x.length)(h:i<32):(cpB x i).set i (x.getD i 0)=cpB x (i+1):=by
 unfold cpB;have a:(x.take i).length=i:=by grind
 rw[wx,Eu V,show 32 -i=(32 -(i+1))+1 by omega,SS,aau _ _ V,a,Nat.sub_self,To,s_,Ja,Eu V];rfl
def aIE(c:UInt8):B .quo (bq c) (.I L 8)=J (bq (cw (c.toNat/8))):=by rfl
def aIF(c:UInt8):B .mul (bq (cw (c.toNat/8))) (.I L 8)=J (bq (cw (c.toNat/8*8))):=by
 show J (AV.I L (dh L ((((cw (c.toNat/8)).toNat:Nat):Int)*8)))=_;unfold bq;rw[qE,qE,show dh L (((c.toNat/8 %2^8:Nat):Int)*8)=(((c.toNat/8 %2^8:Nat):Int)*8)%256 from rfl]
 grind
def aCN(c:UInt8):B .add (bq (cw (c.toNat %64))) (.I L 64)=J (bq (cw (c.toNat %64+64))):=by show J (AV.I L (dh L ((((cw (c.toNat %64)).toNat:Nat):Int)+64)))=_;unfold bq;rw[qE,qE,show dh L (((c.toNat %64 %2^8:Nat):Int)+64)=(((c.toNat %64 %2^8:Nat):Int)+64)%256 from rfl];simp
def Zm(h:X)(t:h.length=64)(b0 f:de)(S:Z):∀n i:Nat,i+n=32->
 DC N C (.L vY) ⟨[(2,.P (S.length+1) 0),(4,.P (S.length+2) 0),(5,.P (S.length+3) 0),(6,.I Y (i:Int))],[],S.length⟩ (S++[b0,f,.M (R h) [] O,.M (R (cpB h i)) [] O])=
  J (.E 0,⟨[(2,.P (S.length+1) 0),(4,.P (S.length+2) 0),(5,.P (S.length+3) 0)],[],S.length⟩,S++[b0,f,.M (R h) [] O,.M (R (h.take 32)) [] O]):=by
 intro n;induction n with
 |zero=>
  intro i j;simp_all[aj,j6,Zk]
 |succ n m=>
  intro i j;have e:i<32:=V;have g:=m (i+1) V;have k:=N4 (n:=64) (i:=S.length+2) (show i<64 by omega);have l:=N4 (n:=32) (i:=S.length+3) e;have o:∀b c d,aX (S++[b,c,.M (R h) [] O,d]) .C (.P (S.length+2) i)=J (bq (h.getD i 0)):=λb c d=>U7 (cr S _ 2) V;have p:∀b c d,ba [] S.length (S++[b,c,d,.M (R (cpB h i)) [] O]) 1 (.P (S.length+3) i) (bq (h.getD i 0))=J ([],S++[b,c,d,.M (R (cpB h (i+1))) [] O]):=λb c d=>by rw[st8 (cr S _ 3) (by grind [Wz]),aeh _ _ V e];simp
  generalize R (cpB h i)=q,R (cpB h (i+1))=r,R (h.take 32)=a,R h=E,bq (h.getD i 0)=s at*;rw[aj,aO j6];simp-implicitDefEqProofs [-B, -jS,ds,(V:(i:Int)<32),k,l,o,p,ej];rw[ab j6];try simp at g
  simp-implicitDefEqProofs [-B,(aR V:dh Y ((i:Int)+1)=((i+1:Nat):Int)),g]
def aqO(T:Z)(nb d:Nat):∀b:X,(cE b).mapM (λx:K=>x.mapM (DH T nb (d+1)))=J (cE b)
 |[]=>rfl
 |c::r=>by have h:=aqO T nb d r;have e:DH T nb (d+1) (bq c)=J (bq c):=rfl;unfold cE at*;simp[MR,F5,h,e]
def alz{S T:Z}{nb k off n c:Nat}{l:List de}{b:X}{bt:bV}{q:Bool}(a:T=S++l)(h:l[k]? =J (.M (R b) bt q))(d:off+n<=b.length)(i:nb<=S.length+k):NG T nb (.cg (S.length+k) off n c 1)=J (.sl .N 1 (cE ((b.drop off).take n))):=by
 subst a;have f:=Bb (S:=S) (l:=l) (k:=k) (off:=off) (n:=n) (c:=c) (b:=b) h d;have g:=aqO (S++l) nb 10 ((b.drop off).take n);have e:NG (S++l) nb (.cg (S.length+k) off n c 1)=DH (S++l) nb (11+1) (.cg (S.length+k) off n c 1):=rfl
 grind [DH,br]
def NC(s:X)(hs:s.length=32)(S:Z):W N C 76 [.A (R s)] S=J (.cV [.A (R (cq s)),.sl .N 1 (cE (j_ s))],S):=by
 have m:=Dq s;have hl1:(R s).length=32:=by simp[hs]
 have hd1:cU (R s):=aF _;have hz:aK.length=32:=rfl;have hz2:bw.length=64:=rfl;have su:=λT=>NA (af6 S.length s) V T;have ga:∀g,bG (S++[.M (R s) [] O,g]) (.cg S.length 0 32 32 1)=J (.sl (.iq S.length) 1 (cE s)):=λg=>EW (l:=[.M (R s) [] O,g]) (k:=0) rfl hs;have lk:∀g,bK (S++[.M (R s) [] O,g]) (.cg S.length 0 32 32 1)=S++[.M (R s) [] G,g]:=λg=>C_ (l:=[.M (R s) [] O,g]) (k:=0) rfl;have ul:∀g y,bh (S++[.M (R s) [] O,g]) (S++[.M (R s) [] G,y]) (.cg S.length 0 32 32 1)=S++[.M (R s) [] O,y]:=λg y=>Da (l:=[.M (R s) [] O,g]) (l':=[.M (R s) [] G,y]) (k:=0) rfl rfl;have f:=Zm (bM s) m (.M (R s) [] O) (.M aK [] O) S 32 0 rfl;rw[show R (cpB (bM s) 0)=aK from rfl]at f;have l32:((bM s).take 32).length=32:=by simp[m]
 have a7:=aIE (((bM s).take 32).getD 0 0);have a8:=aIF (((bM s).take 32).getD 0 0);have a9:B .rem (bq (((bM s).take 32).getD 31 0)) (.I L 64)=_:=akG (((bM s).take 32).getD 31 0) 64 V V;have I:=aCN (((bM s).take 32).getD 31 0);have ed:j_ s=(bM s).drop 32:=rfl;have en:cq s=(((bM s).take 32).set 0 (cw ((((bM s).take 32).getD 0 0).toNat/8*8))).set 31 (cw ((((bM s).take 32).getD 31 0).toNat %64+64)):=rfl;rw[ed,en];clear ed en;have ld0:∀g h j,aX (S++[g,h,j,.M (R ((bM s).take 32)) [] O]) .C (.P (S.length+3) 0)=J (bq (((bM s).take 32).getD 0 0)):=λg h j=>U7 (cr S _ 3) V;have w:∀g h j c,ba [] S.length (S++[g,h,j,.M (R ((bM s).take 32)) [] O]) 1 (.P (S.length+3) 0) (bq c)=J ([],S++[g,h,j,.M (R (((bM s).take 32).set 0 c)) [] O]):=λg h j c=>by rw[st8 (cr S _ 3) V];simp
 have r:∀g h j c,aX (S++[g,h,j,.M (R (((bM s).take 32).set 0 c)) [] O]) .C (.P (S.length+3) 31)=J (bq (((bM s).take 32).getD 31 0)):=λg h j c=>by rw[U7 (cr S _ 3) (by simp[m]),Ja,PH V,<-Ja]
 have t:∀g h j c d,ba [] S.length (S++[g,h,j,.M (R (((bM s).take 32).set 0 c)) [] O]) 1 (.P (S.length+3) 31) (bq d)=J ([],S++[g,h,j,.M (R ((((bM s).take 32).set 0 c).set 31 d)) [] O]):=λg h j c d=>by rw[st8 (cr S _ 3) (by simp[m])];simp
 have i0:jS 32 1 (.P (S.length+3) 0) (.I Y 0)=J (.P (S.length+3) 0):=N4 (k:=0) V;have i31:jS 32 1 (.P (S.length+3) 0) (.I Y 31)=J (.P (S.length+3) 31):=N4 (k:=31) V;have hH:(R (bM s)).length=64:=by simp[m]
 have x:cU (R (bM s)):=aF _;have hF:(R ((bM s).take 32)).length=32:=by simp[m]
 have hHp:=bA hH x;generalize cw ((((bM s).take 32).getD 0 0).toNat/8*8)=v,cw ((((bM s).take 32).getD 31 0).toNat %64+64)=p,cw ((((bM s).take 32).getD 0 0).toNat/8)=e0,cw ((((bM s).take 32).getD 31 0).toNat %64)=e31 at*;have hN:(R ((((bM s).take 32).set 0 v).set 31 p)).length=32:=by simp[m]
 have u:cU (R ((((bM s).take 32).set 0 v).set 31 p)):=aF _;have hNp:=bA hN u;have w:=λg h j=>w g h j v;have r:=λg h j=>r g h j v;have t:=λg h j=>t g h j v p
 have rs:∀o A a e,br (.A o)=G->cj (.A o)=.A o->dv 76 [] [.A o,.cg (S.length+2) 32 32 32 1] S (S++[A,a,.M (R (bM s)) [] O,e])=J (.cV [.A o,.sl .N 1 (cE ((bM s).drop 32))],S):=λo A a e hp hn=>by
  have f1:=alz (S:=S) (nb:=S.length) (off:=32) (n:=32) (c:=32) (b:=bM s) (bt:=[]) (q:=O) (k:=2) rfl (show[A,a,de.M (R (bM s)) [] O,e][2]? =_ from rfl) V V;rw[oL (by simp[m])]at f1;have f2:∀T,NG T S.length (.A o)=J (.A o):=λT=>by simp[NG,pfr,hp]
  have hpb:eS (cE ((bM s).drop 32))=G:=fI _;have g1:bm [] (.A o)=(.A o,[]):=rfl;have g2:∀i,bm [] (.cg i 32 32 32 1)=(.cg i 32 32 32 1,[]):=λ_=>rfl;have n2:∀i,cj (.cg i 32 32 32 1)=.cg i 32 32 32 1:=λ_=>rfl;generalize cE ((bM s).drop 32)=BD,R (bM s)=z at*;simp[uY,hn,n2,g1,g2,cI,aG,br,Pq,Z2,jE,xU,lt,Lo,f1,f2,hpb];simp_all[br]
 generalize((bM s).take 32).getD 0 0=c0,((bM s).take 32).getD 31 0=P,R ((((bM s).take 32).set 0 v).set 31 p)=o,R (((bM s).take 32).set 0 v)=EM,R ((bM s).take 32)=EF,cE ((bM s).drop 32)=BG,R (bM s)=z,cE s=BS,R s=E at*;generalize bq c0=cc0,bq P=aIs,bq v=cd0,bq p=aIq,bq e0=ce0,bq e31=aIr at*;have c1:(AV.A E).cells=E:=rfl;have c2:(AV.A z).cells=z:=rfl;have c5:(AV.A o).cells=o:=rfl;have rs:=λA a e=>rs o A a e u.agg.br u.agg.cj;rw[jC aHk];generalize hZ:aK=j,bw=h at*;try simp at f
 try simp at su
 simp-implicitDefEqProofs [hl1,hd1,qq,ga,lk,ul,cQ,b_,rF,su,hH,x,hz,hz2, -B, -jS, -AV.cells, -aW];rw[ab j6];simp-implicitDefEqProofs [f,i0,ld0,a7,a8,w,i31,r,a9,I,t,hN,u,hNp,rs,qq,hz, -B, -jS, -AV.cells, -aW]
theorem adn(B:Nat):∀(l:List Nat)(x:Nat),vB B (l++[x])=vB B l+x*B^l.length
 |[],x=>by simp[vB]
 |d::r,x=>by
  rw[FX,vB,vB,adn B r x,CJ,uo]
  grind
theorem ab4(X k:Nat):X %256^(k+1)=X %256^k+256^k*(X/256^k %256):=by rw[uo,F9]
def aiu{l:List Nat}{i A B o:Nat}(a:l.length=i)(b:vB 256 l+o*256^i=A %256^i+B %256^i):
 vB 256 (l++[(A/256^i %256+B/256^i %256+o)%256])+(A/256^i %256+B/256^i %256+o)/256*256^(i+1)=A %256^(i+1)+B %256^(i+1):=by
 grind [adn,ab4,Nat.div_add_mod]
def aiv{l:List Nat}{i k c o a B:Nat}(b:i+k<l.length)(d:vB 256 l+o*256^(i+k)=a+c*(B %256^k)*256^i):
 vB 256 (l.set (i+k) ((l.getD (i+k) 0+c*(B/256^k %256)+o)%256))+(l.getD (i+k) 0+c*(B/256^k %256)+o)/256*256^(i+(k+1))=a+c*(B %256^(k+1))*256^i:=by
 grind [L7,ab4,Nat.div_add_mod]
def aiw{a c b o:Nat}(d:a<256)(f:c<256)(e:b<256)(g:o<256):(a+c*b+o)/256<256/\a+c*b+o<65536:=by have:c*b<=255*255:=Cx V V;omega
def aix{W i k o A B n:Nat}(d:B<256^n)(f:n<=k)(g:0<o)(h:W+o*256^(i+k)=A %256^i*B+A/256^i %256*(B %256^k)*256^i):k=n:=by
 have e:B %256^k=B:=fQ (zj d (ya V f));have a:A %256^i*B+A/256^i %256*B*256^i=A %256^(i+1)*B:=by
  rw[ab4]
  grind
 rw[e,a]at h;have b:A %256^(i+1)<256^(i+1):=gH _ (CM V);have j:A %256^(i+1)*B<=A %256^(i+1)*256^n:=CI _ V;have c:A %256^(i+1)*256^n<256^(i+1)*256^n:=acB b (CM V);have l:256^(i+k)<=o*256^(i+k):=Nat.le_mul_of_pos_left _ g;rw[<-p7]at c;have m:256^(i+k)<256^(i+1+n):=V
 grind [Nat.pow_lt_pow_iff_right]
def aiy{A B i:Nat}:A %256^i*B+A/256^i %256*B*256^i=A %256^(i+1)*B:=by
 rw[ab4]
 grind
def Qu(a b:Nat)(h:a+b<100000000):B .add (iI a) (iI b)=J (iI (a+b)):=by show J (AV.I Y (dh Y ((a:Int)+(b:Int))))=_;rw[cF V];rfl
def asX(a b:Nat)(h:a*b<100000000):B .mul (iI a) (iI b)=J (iI (a*b)):=by show J (AV.I Y (dh Y ((a:Int)*(b:Int))))=_;rw[show(a:Int)*(b:Int)=((a*b:Nat):Int)from rfl,cF V];rfl
def aiz(a:Nat):B .rem (iI a) (.I Y 256)=J (iI (a %256)):=by rfl
def aiA(a:Nat)(h:a<100000000):B .quo (iI a) (.I Y 256)=J (iI (a/256)):=by show(if(256:Int)=0 then D else J (AV.I Y (dh Y ((a:Int).tdiv 256))))=_;rw[if_neg fE,Tm V,cF V];rfl
def VG(a:Nat):B .gtr (iI a) (.I Y 0)=J (.B (ck (0<a))):=by show J (AV.B (ck ((a:Int)>0)))=_;simp
def lnQ(r:f_)(l:List Nat):fG (.sl r 1 (jP l))=J (.I Y (l.length:Int)):=by simp[fG]
def abe(i n:Nat):B .lss (.I Y (i:Int)) (.I Y (n:Int))=J (.B (ck (i<n))):=by simp
def afu(s t:f_)(j:wu s)(k:wu t)(a b:List Nat)(ha:Dg 256 a)(hb:Dg 256 b)(n:Nat)(la:a.length<=n)(lb:b.length<=n)(hn:n<1000)(S:Z):∀d i(l:List Nat)(o:Nat)(f:Q)(ag:bV),
 i+d=n+1->l.length=i->Dg 256 l->o<=1->vB 256 l+o*256^i=vB 256 a %256^i+vB 256 b %256^i->d_ 1 f ag (jP l)->
 ∃(l':List Nat)(g:Q)(aT:bV),Dg 256 l'/\vB 256 l'=vB 256 a+vB 256 b/\a.length<=l'.length/\l'.length<=n+1/\d_ 1 g aT (jP l')/\
  DC N C (.L sF) ⟨[(0,.sl s 1 (jP a)),(1,.sl t 1 (jP b)),(5,f),(6,iI o),(7,.I Y (i:Int))],ag,S.length⟩ S=J (.E 0,⟨[(5,g)],aT,S.length⟩,S):=by
 have va:=CZ ha;have vb:=CZ hb;have le:∀{x m i:Nat},x<256^m->m<=i->x<256^i:=λh1 h2=>zj h1 (ya V h2);have p:∀i(l:List Nat)(f:Q)(ag:bV),¬i<a.length->¬i<b.length->l.length=i->i<=n+1->Dg 256 l->vB 256 l=vB 256 a %256^i+vB 256 b %256^i->d_ 1 f ag (jP l)->
  ∃(l':List Nat)(g:Q)(aT:bV),Dg 256 l'/\vB 256 l'=vB 256 a+vB 256 b/\a.length<=l'.length/\l'.length<=n+1/\d_ 1 g aT (jP l')/\
   DC N C (.L sF) ⟨[(0,.sl s 1 (jP a)),(1,.sl t 1 (jP b)),(5,f),(6,iI 0),(7,.I Y (i:Int))],ag,S.length⟩ S=J (.E 0,⟨[(5,g)],aT,S.length⟩,S):=by
  intro i l f ag h1 h2 r hi q T ho;refine⟨l,f,ag,q, ?_,by omega,by omega,ho, ?_⟩;·grind [fQ]
  have E:=abe i a.length;have I:=abe i b.length;have P:=VG 0;rw[decide_eq_false h1]at E;rw[decide_eq_false h2]at I;rw[decide_eq_false V]at P;have l1:=lnQ s a;have l2:=lnQ t b;generalize iI 0=z,jP a=A,jP b=c at*;rw[aj,aO lG];simp-implicitDefEqProofs [nW, -B,E,I,P,l1,l2]
 intro d;induction d with
 |zero=>
  intro i l o f ag hi r q ho T u;have e:o=0:=by
   have h1:vB 256 a<256^n:=le va la
   have h2:vB 256 b<256^n:=le vb lb
   rw[Nat.mod_eq_of_lt (le va (by omega)),Nat.mod_eq_of_lt (le vb (by omega)),show i=n+1 by omega,Nat.pow_succ]at T
   rcases Nat.eq_zero_or_pos o with h|h
   ·exact h
   ·have:=Nat.le_mul_of_pos_left (256^n*256) h
    omega
  subst e;exact p i l f ag V V r V q V u
 |succ d ih=>
  intro i l o f ag hi r q ho T u;by_cases hc:i<a.length\/i<b.length\/0<o;rotate_left
  ·have e:o=0:=by omega
   subst e;exact p i l f ag V V r V q V u
  have E:=abe i a.length;have I:=abe i b.length;have P:=VG o;have hc':(ck (i<a.length)||(ck (i<b.length)||ck (0<o)))=G:=by grind
  have l1:=lnQ s a;have l2:=lnQ t b;have f1:=λS=>C7 s a (i:Int) S;have f2:=λS=>C7 t b (i:Int) S;rw[Kx ha]at f1;rw[Kx hb]at f2;have m1:vB 256 a/256^i %256<256:=gH _ V;have m2:vB 256 b/256^i %256<256:=gH _ V;have s1:=Qu (vB 256 a/256^i %256) (vB 256 b/256^i %256) V;have s2:=Qu (vB 256 a/256^i %256+vB 256 b/256^i %256) o V;have s3:=aiz (vB 256 a/256^i %256+vB 256 b/256^i %256+o);have s4:=aiA (vB 256 a/256^i %256+vB 256 b/256^i %256+o) V;have st:=aiu r T;have d1:=xr (vB 256 a/256^i %256);have d2:=xr (vB 256 b/256^i %256);generalize vB 256 a/256^i %256=x,vB 256 b/256^i %256=y at*;have bo:fh 1 [[AV.I Y 0]] [(0,iI ((x+y+o)%256))]=J [[iI ((x+y+o)%256)]]:=rfl;have hq:(jP l).length+1<=1073741824:=by simp;omega
  have⟨o2,t2,a1,a2⟩:=d_.app u (xs:=[[iI ((x+y+o)%256)]]) ca hq .X S;have et:jP l++[[iI ((x+y+o)%256)]]=jP (l++[(x+y+o)%256]):=by simp[jP]
  rw[et]at a2
  have v:Dg 256 (l++[(x+y+o)%256]):=λz hz=>by
   rcases MT.1 hz with h|h;·exact q z h
   grind [gH]
  have⟨l',g,aT,n1,n2,n3,n4,n5,n6⟩:=ih (i+1) (l++[(x+y+o)%256]) ((x+y+o)/256) o2 t2 (by omega) (by simp[r]) v (by omega) st a2;refine⟨l',g,aT,n1,n2,n3,n4,n5, ?_⟩;have A1:=j.ga;have A2:=j.lk;have A3:=j.ul;have A4:=j.no;have B1:=k.ga;have B2:=k.lk;have B3:=k.ul;have B4:=k.no;have hw:dh Y ((i:Int)+1)=((i+1:Nat):Int):=aR (by omega);clear st T v et a2 hq u q;generalize ck (i<a.length)=p1,ck (i<b.length)=p2,ck (0<o)=p3,iI ((x+y+o)%256)=w,iI ((x+y+o)/256)=w2,iI (x+y+o)=w3,iI (x+y)=w4,iI x=ex,iI y=ey,iI o=eo,jP a=A,jP b=c at*;cases p1<;>cases p2<;>cases p3<;>first|(exact absurd hc' (by decide))|skip
  all_goals
   rw[aj,aO lG];simp-implicitDefEqProofs [nW, -B,E,I,P,l1,l2,A1,A2,A3,A4,B1,B2,B3,B4,cQ,b_,f1,f2,s1,s2,s3,s4,d1,d2,bo,a1,ej];rw[ab lG];try simp at n6
   simp-implicitDefEqProofs [-B,hw,n6]
def afv(f g:f_)(d:wu f)(e:wu g)(a b:List Nat)(i:Dg 256 a)(j:Dg 256 b)(n:Nat)(p:a.length<=n)(s:b.length<=n)(k:n<1000)(S:Z):
 ∃(l:List Nat)(r:Q),Dg 256 l/\vB 256 l=vB 256 a+vB 256 b/\a.length<=l.length/\l.length<=n+1/\NW 1 r (jP l)/\W N C 208 [.sl f 1 (jP a),.sl g 1 (jP b)] S=J (r,S):=by
 have⟨m,o,t,u,v,w,x,h,y⟩:=afu f g d e a b i j n p s k S (n+1) 0 [] 0 .aw [] V rfl (by nofun) V (by simp[vB,J4]) (.inl ⟨rfl,rfl⟩);have⟨q,T,I,z,P⟩:=h.res (C9 _);refine⟨m,q,u,v,w,x,z, ?_⟩;have E:=h.nt;rw[jN azj];rw[show iI 0=.I Y 0 from rfl]at y;generalize jP a=A,jP b=c at*;simp[-B];rw[ab lG];simp_all
def aGM(a b:Nat)(h:a+b<100000000):B .add (.I Y (a:Int)) (.I Y (b:Int))=J (.I Y ((a+b:Nat):Int)):=Qu a b h
def aGN{i k n c:Nat}(h:k<n):nK 1 (.cg i 0 n c 1) (.I Y (k:Int))=J (.P i k):=by grind [nK]
def anJ{T:Z}{i k c:Nat}{l:List Nat}{bt:bV}{q:Bool}(h:T[i]? =J (.M (eI l) bt q))(b:l.length=k):bZ T (.cg i 0 k c 1)=J (1,jP l):=by
 simp only[bZ,h];rw[if_pos ⟨by simp[b],by omega⟩];congr 2;apply Bf;intro j;unfold jP;rw[zo,zo];by_cases a:j<k
 ·rw[aax a,Eu V]
  simp only[W6];rw[JO,Bt,YA j V,Ja,Eu V];rfl
 simp_all
theorem asY{T:Z}{nb i k c:Nat}{l:List Nat}{bt:bV}{q:Bool}(h:T[i]? =J (.M (eI l) bt q))(a:l.length=k)(f:nb<=i):Lo T nb (.cg i 0 k c 1)=J (.sl .N 1 (jP l)):=by
 have d:=anJ (c:=c) h a;have e:=aiB T nb 10 l;have b:Lo T nb (.cg i 0 k c 1)=DH T nb (11+1) (.cg i 0 k c 1):=rfl
 grind [DH,br]
def ixQ(r:f_)(l:List Nat)(i:Nat)(h:i<l.length):nK 1 (.sl r 1 (jP l)) (.I Y (i:Int))=J (.eZ (tz r) [iI (l.getD i 0)] 0):=by grind [jP,nK]
def abf(m n:f_)(g:wu n)(a b:List Nat)(ha:Dg 256 a)(hb:Dg 256 b)(la:a.length=32)(lb:b.length=32)(i:Nat)(hi:i<32)(S:Z):∀(d k:Nat)(l:List Nat)(o:Nat),
 k+d=33->l.length=64->Dg 256 l->o<256->vB 256 l+o*256^(i+k)=vB 256 a %256^i*vB 256 b+vB 256 a/256^i %256*(vB 256 b %256^k)*256^i->
 ∃l':List Nat,Dg 256 l'/\l'.length=64/\vB 256 l'=vB 256 a %256^(i+1)*vB 256 b/\
  DC N C (.L sG) ⟨[(0,.sl m 1 (jP a)),(1,.sl n 1 (jP b)),(5,.cg S.length 0 64 64 1),(6,.I Y (i:Int)),(7,iI o),(8,.I Y (k:Int))],[],S.length⟩ (S++[.M (eI l) [] O])=
   J (.E 2,⟨[(0,.sl m 1 (jP a)),(1,.sl n 1 (jP b)),(5,.cg S.length 0 64 64 1),(6,.I Y (i:Int))],[],S.length⟩,S++[.M (eI l') [] O]):=by
 have vb:=CZ hb;rw[lb]at vb;have exit:∀(k:Nat)(l:List Nat),32<=k->l.length=64->Dg 256 l->vB 256 l=vB 256 a %256^i*vB 256 b+vB 256 a/256^i %256*(vB 256 b %256^k)*256^i->
  ∃l':List Nat,Dg 256 l'/\l'.length=64/\vB 256 l'=vB 256 a %256^(i+1)*vB 256 b/\
   DC N C (.L sG) ⟨[(0,.sl m 1 (jP a)),(1,.sl n 1 (jP b)),(5,.cg S.length 0 64 64 1),(6,.I Y (i:Int)),(7,iI 0),(8,.I Y (k:Int))],[],S.length⟩ (S++[.M (eI l) [] O])=
    J (.E 2,⟨[(0,.sl m 1 (jP a)),(1,.sl n 1 (jP b)),(5,.cg S.length 0 64 64 1),(6,.I Y (i:Int))],[],S.length⟩,S++[.M (eI l') [] O]):=by
  intro k l hk hl q r;refine⟨l,q,hl, ?_, ?_⟩;·rw[r,fQ (zj vb (ya V hk)),aiy]
  have t:=abe k b.length;have u:=VG 0;rw[decide_eq_false V]at t;rw[decide_eq_false V]at u;have l2:=lnQ n b;generalize iI 0=z,jP a=A,jP b=f,eI l=E at*;rw[aj,aO jr];simp-implicitDefEqProofs [-B,t,u,l2]
 intro d;induction d with
 |zero=>
  intro k l o hk hl q ho r;have e:o=0:=by
   rcases PL o with h|h;·exact h
   ·have:=aix vb V h r
    omega
  grind
 |succ d ih=>
  intro k l o hk hl q ho r;by_cases hc:k<b.length\/0<o;rotate_left;·simp_all
  have hik:i+k<64:=by omega
  have t:=abe k b.length;have u:=VG o;have I:(ck (k<b.length)||ck (0<o))=G:=by simp_all
  have l2:=lnQ n b;have f2:=λS=>C7 n b (k:Int) S;rw[Kx hb]at f2;have m1:=D0 ha V i;have m2:vB 256 b/256^k %256<256:=gH _ V;have m3:=D0 q V (i+k);have⟨c1,c2⟩:=aiw m3 m1 m2 ho;have v:vB 256 a/256^i %256=a.getD i 0:=BI ha i;have y:=aiv (l:=l) (i:=i) (k:=k) V r;rw[v]at y;have pl:a.getD i 0*(vB 256 b/256^k %256)<=255*255:=Cx V V;have s1:=asX (a.getD i 0) (vB 256 b/256^k %256) V;have s2:=Qu (l.getD (i+k) 0) (a.getD i 0*(vB 256 b/256^k %256)) V;have s5:=Qu (l.getD (i+k) 0+a.getD i 0*(vB 256 b/256^k %256)) o V;have s3:=aiz (l.getD (i+k) 0+a.getD i 0*(vB 256 b/256^k %256)+o);have s4:=aiA (l.getD (i+k) 0+a.getD i 0*(vB 256 b/256^k %256)+o) V;have d2:=xr (vB 256 b/256^k %256);have ad:=aGM i k V;have ix:=aGN (i:=S.length) (c:=64) hik;have gk:l[i+k]? =J (l.getD (i+k) 0):=by grind [List.getElem?_eq_getElem]
  have ld:aX (S++[.M (eI l) [] O]) .C (.P S.length (i+k))=J (iI (l.getD (i+k) 0)):=ldI (jF S _) gk;have ixa:nK 1 (.sl m 1 (jP a)) (.I Y (i:Int))=J (.eZ (tz m) [iI (a.getD i 0)] 0):=ixQ m a i V;have p:∀T x,aX T .C (.eZ (tz m) [iI x] 0)=J (iI x):=λ_ _=>rfl;have sd:=stI (k:=i+k) (jF S [.M (eI l) [] O]) V ((l.getD (i+k) 0+a.getD i 0*(vB 256 b/256^k %256)+o)%256) [] S.length;have dD:=xr ((l.getD (i+k) 0+a.getD i 0*(vB 256 b/256^k %256)+o)%256);have s:∀E,(S++[de.M (eI l) [] O]).set S.length E=S++[E]:=λE=>by simp
  rw[s]at sd;have P:Dg 256 (l.set (i+k) ((l.getD (i+k) 0+a.getD i 0*(vB 256 b/256^k %256)+o)%256)):=Qv q (gH _ V);rw[<-v]at y;have⟨l',n1,n2,n3,n4⟩:=ih (k+1) _ ((l.getD (i+k) 0+vB 256 a/256^i %256*(vB 256 b/256^k %256)+o)/256) V (by grind) (by grind) (by grind) y;rw[v]at n4;refine⟨l',n1,n2,n3, ?_⟩;have B1:=g.ga;have B2:=g.lk;have B3:=g.ul;have B4:=g.no;have hw:dh Y ((k:Int)+1)=((k+1:Nat):Int):=aR V;have p:=p (S++[.M (eI l) [] O]) (a.getD i 0);clear y r P q c1 c2 pl gk m1 m2 m3 v s;generalize ck (k<b.length)=p1,ck (0<o)=p3,eI (l.set (i+k) ((l.getD (i+k) 0+a.getD i 0*(vB 256 b/256^k %256)+o)%256))=E1,iI ((l.getD (i+k) 0+a.getD i 0*(vB 256 b/256^k %256)+o)%256)=w,iI ((l.getD (i+k) 0+a.getD i 0*(vB 256 b/256^k %256)+o)/256)=w2,iI (l.getD (i+k) 0+a.getD i 0*(vB 256 b/256^k %256)+o)=w3,iI (l.getD (i+k) 0+a.getD i 0*(vB 256 b/256^k %256))=w4,iI (a.getD i 0*(vB 256 b/256^k %256))=w5,iI (l.getD (i+k) 0)=w6,iI (a.getD i 0)=w7,iI (vB 256 b/256^k %256)=w8,iI o=w9,eI l=E0,eI l'=E2,jP a=A,jP b=f,((i+k:Nat):Int)=j at*;cases p1<;>cases p3<;>first|(exact absurd I fE)|skip
  all_goals
   rw[aj,aO jr];simp-implicitDefEqProofs [-B,t,u,l2,ad,ix,ld,ixa,p,B1,B2,B3,B4,cQ,b_,f2,s1,s2,s3,s4,s5,d2,sd,ej];rw[ab jr];try simp at n4
   simp-implicitDefEqProofs [-B,hw,n4]
def abg(h r:f_)(m:wu r)(a b:List Nat)(s:Dg 256 a)(v:Dg 256 b)(p:a.length=32)(z:b.length=32)(S:Z):∀(d i:Nat)(l:List Nat),
 i+d=32->l.length=64->Dg 256 l->vB 256 l=vB 256 a %256^i*vB 256 b->
 ∃l':List Nat,Dg 256 l'/\l'.length=64/\vB 256 l'=vB 256 a*vB 256 b/\
  DC N C (.L yD) ⟨[(0,.sl h 1 (jP a)),(1,.sl r 1 (jP b)),(5,.cg S.length 0 64 64 1),(6,.I Y (i:Int))],[],S.length⟩ (S++[.M (eI l) [] O])=
   J (.E 0,⟨[(5,.cg S.length 0 64 64 1)],[],S.length⟩,S++[.M (eI l') [] O]):=by
 have u:=CZ s;rw[p]at u;intro d;induction d with
 |zero=>
  intro i l w k j n;have e:i=32:=V;subst e;rw[fQ u]at n;refine⟨l,j,k,n, ?_⟩;have g:B .lss (.I Y 32) (.I Y (a.length:Int))=J (.B O):=by rw[p];rfl
  have o:=lnQ h a;generalize jP a=A,jP b=c,eI l=E at*;rw[aj,aO lL];simp-implicitDefEqProofs [-B,g,o]
 |succ d y=>
  intro i l w k j n;have g:=abe i a.length;rw[decide_eq_true V]at g;have o:=lnQ h a;have⟨f,I,P,T,q⟩:=abf h r m a b s v p z i V S 33 0 l 0 V k j V (by grind);have⟨l',r1,r2,r3,t⟩:=y (i+1) f V P I T;refine⟨l',r1,r2,r3, ?_⟩;have x:dh Y ((i:Int)+1)=((i+1:Nat):Int):=aR V;rw[show iI 0=.I Y 0 from rfl]at q;generalize jP a=A,jP b=c,eI l=E0,eI f=E1,eI l'=E2 at*;rw[aj,aO lL];simp-implicitDefEqProofs [-B,g,o];rw[ab jr];try simp at q
  simp-implicitDefEqProofs [-B,q,ej];rw[ab lL];try simp at t
  simp-implicitDefEqProofs [-B,x,t]
def afw(h f:f_)(g:wu f)(a b:List Nat)(r:Dg 256 a)(s:Dg 256 b)(k:a.length=32)(m:b.length=32)(S:Z):
 ∃l:List Nat,Dg 256 l/\l.length=64/\vB 256 l=vB 256 a*vB 256 b/\W N C 209 [.sl h 1 (jP a),.sl f 1 (jP b)] S=J (.sl .N 1 (jP l),S):=by
 have z:∀n,vB 256 (fg n 0)=0:=λn=>by induction n<;>grind [vB]
 have q:Dg 256 (fg 64 0):=λd P=>by simp_all
 have⟨e,v,w,x,p⟩:=abg h f g a b r s k m S 32 0 (fg 64 0) V rfl q (by grind);refine⟨e,v,w,x, ?_⟩;have i:=lnQ h a;have j:=lnQ f b;rw[k]at i;rw[m]at j;have y:dv 209 [] [.cg S.length 0 64 64 1] S (S++[.M (eI e) [] O])=J (.sl .N 1 (jP e),S):=by grind [asY,C9,tE,cI,cj,bm,aG,br,Pq,Z2,jE,xU,lt]
 have o:∀a b,B .add (.I Y 32) (.I Y 32)=J (.I Y 64)/\Po 1 [.I Y 0] S (.I a 64) (.I b 64)=J (.cg S.length 0 64 64 1,S++[.M (eI (fg 64 0)) [] O]):=λ_ _=>⟨rfl,rfl⟩;have t:=λa b=>(o a b).1;have u:=λa b=>(o a b).2;generalize jP a=A,jP b=c,eI e=I,eI (fg 64 0)=E at*;rw[jN azk];simp-implicitDefEqProofs [-B,i,j,t Y Y,u];rw[ab lL];try simp at p
 simp-implicitDefEqProofs [-B,p,y]
def VH(a b c:X)(E:a.length=32)(I:b.length=32)(P:c.length=32)(S:Z):W N C 143 [.A (R a),.A (R b),.A (R c)] S=J (.A (R (ig 32 ((dp a*dp b+dp c)%qN))),S):=by
 have hl1:(R a).length=32:=by simp[E]
 have hl2:(R b).length=32:=by simp[I]
 have hl3:(R c).length=32:=by simp[P]
 have hd1:cU (R a):=aF _;have hd2:cU (R b):=aF _;have hd3:cU (R c):=aF _;have y:∀g i j,bG (S++[.M (R a) [] O,g,i,j]) (.cg S.length 0 32 32 1)=J (.sl (.iq S.length) 1 (cE a)):=λg i j=>EW (l:=[.M (R a) [] O,g,i,j]) (k:=0) rfl E;have lk1:∀g i j,bK (S++[.M (R a) [] O,g,i,j]) (.cg S.length 0 32 32 1)=S++[.M (R a) [] G,g,i,j]:=λg i j=>C_ (l:=[.M (R a) [] O,g,i,j]) (k:=0) rfl;have ul1:∀g i j n o p,bh (S++[.M (R a) [] O,g,i,j]) (S++[.M (R a) [] G,n,o,p]) (.cg S.length 0 32 32 1)=S++[.M (R a) [] O,n,o,p]:=λg i j n o p=>Da (l:=[.M (R a) [] O,g,i,j]) (l':=[.M (R a) [] G,n,o,p]) (k:=0) rfl rfl;have z:∀g i j,bG (S++[g,.M (R b) [] O,i,j]) (.cg (S.length+1) 0 32 32 1)=J (.sl (.iq (S.length+1)) 1 (cE b)):=λg i j=>EW (l:=[g,.M (R b) [] O,i,j]) (k:=1) rfl I;have lk2:∀g i j,bK (S++[g,.M (R b) [] O,i,j]) (.cg (S.length+1) 0 32 32 1)=S++[g,.M (R b) [] G,i,j]:=λg i j=>C_ (l:=[g,.M (R b) [] O,i,j]) (k:=1) rfl;have ul2:∀g i j n o p,bh (S++[g,.M (R b) [] O,i,j]) (S++[n,.M (R b) [] G,o,p]) (.cg (S.length+1) 0 32 32 1)=S++[n,.M (R b) [] O,o,p]:=λg i j n o p=>Da (l:=[g,.M (R b) [] O,i,j]) (l':=[n,.M (R b) [] G,o,p]) (k:=1) rfl rfl;have A:∀g i j,bG (S++[g,i,.M (R c) [] O,j]) (.cg (S.length+2) 0 32 32 1)=J (.sl (.iq (S.length+2)) 1 (cE c)):=λg i j=>EW (l:=[g,i,.M (R c) [] O,j]) (k:=2) rfl P;have lk3:∀g i j,bK (S++[g,i,.M (R c) [] O,j]) (.cg (S.length+2) 0 32 32 1)=S++[g,i,.M (R c) [] G,j]:=λg i j=>C_ (l:=[g,i,.M (R c) [] O,j]) (k:=2) rfl;have ul3:∀g i j n o p,bh (S++[g,i,.M (R c) [] O,j]) (S++[n,o,.M (R c) [] G,p]) (.cg (S.length+2) 0 32 32 1)=S++[n,o,.M (R c) [] O,p]:=λg i j n o p=>Da (l:=[g,i,.M (R c) [] O,j]) (l':=[n,o,.M (R c) [] G,p]) (k:=2) rfl rfl;have hz:aK.length=32:=rfl;have⟨q1,p1,f1⟩:=Af (.iq S.length) a V (S++[.M (R a) [] G,.M (R b) [] O,.M (R c) [] O,.M aK [] O]);have⟨q2,p2,f2⟩:=Af (.iq (S.length+1)) b V (S++[.M (R a) [] O,.M (R b) [] G,.M (R c) [] O,.M aK [] O]);have⟨q3,p3,f3⟩:=Af (.iq (S.length+2)) c V (S++[.M (R a) [] O,.M (R b) [] O,.M (R c) [] G,.M aK [] O]);have⟨o1,t1,a1,q⟩:=p1.take [];have⟨o2,t2,a2,r⟩:=p2.take t1;have⟨l,l1,l2,l3,l4⟩:=afw .N .N (.inl rfl) (VI a) (VI b) (VJ a) (VJ b) (by simp[E]) (by simp[I]) (S++[.M (R a) [] O,.M (R b) [] O,.M (R c) [] O,.M aK [] O]);have⟨o3,t3,a3,s⟩:=p3.take (t1++t2);have⟨m,q4,m1,m2,m3,m4,p4,f4⟩:=afv .N .N (.inl rfl) (.inl rfl) l (VI c) l1 (VJ c) 64 V (by simp[P]) V (S++[.M (R a) [] O,.M (R b) [] O,.M (R c) [] O,.M aK [] O]);have⟨o4,t4,a4,t⟩:=p4.take (t1++t2++t3);have x:m≠[]:=λh=>by simp_all
 have⟨l',r1,r2,r3,r4⟩:=Qw .N m m1 x V (S++[.M (R a) [] O,.M (R b) [] O,.M (R c) [] O,.M aK [] O]);have u:=λT=>Nl .N (.inl rfl) l' r1 T;rw[r3,m2,l3,YB,YB,YB]at u;have n1:=d_.dT q;have n2:=d_.dT r;have n3:=d_.dT s;have n4:=d_.dT t;rw[abh]at n1 n2 n3 n4;have nl:dT (.sl .N 1 (jP l))=.sl .N 1 (jP l):=wu.no (.inl rfl) _;have nl':dT (.sl .N 1 (jP l'))=.sl .N 1 (jP l'):=wu.no (.inl rfl) _;have g1:=d_.Gh q;have g2:=d_.Gh r;have g3:=d_.Gh s;have g4:=d_.Gh t;have k1:=d_.lock q;have k2:=d_.lock r;have k3:=d_.lock s;have k4:=d_.lock t;have u1:=d_.tj q;have u2:=d_.tj r;have u3:=d_.tj s;have u4:=d_.tj t;have v:cU (R (ig 32 ((dp a*dp b+dp c)%qN))):=aF _;have w:(R (ig 32 ((dp a*dp b+dp c)%qN))).length=32:=ca;have pkR:=bA w v;clear q r s t p1 p2 p3 p4 l1 l2 l3 m1 m2 m3 m4 x r1 r2 r3;generalize R (ig 32 ((dp a*dp b+dp c)%qN))=f,jP l'=L',jP m=e,jP l=d,jP (VI a)=D1,jP (VI b)=D2,jP (VI c)=D3,R a=EA,R b=EB,R c=EC,cE a=BA,cE b=BB,cE c=BC at*;have c1:(AV.A f).cells=f:=rfl;have c2:(AV.A EA).cells=EA:=rfl;have c3:(AV.A EB).cells=EB:=rfl;have c4:(AV.A EC).cells=EC:=rfl;rw[LB azl];generalize aK=j at*;try simp at a1 a2 a3 a4
 try simp at f1 f2 f3
 try simp at l4 f4 r4
 simp-implicitDefEqProofs [hl1,hl2,hl3,hd1,hd2,hd3,qq,y,lk1,ul1,z,lk2,ul2,A,lk3,ul3,cQ,b_,rF,VK,VL,VM,VN,f1,f2,f3,a1,a2,a3,a4,n1,n2,n3,n4,g1,g2,g3,g4,k1,k2,k3,k4,u1,u2,u3,u4,l4,f4,r4,nl,nl',u,v,w,pkR,hz, -AV.cells, -aW]
def Zn(t:bV)(x y:X):aY t (.cV [.A (R x),.sl .N 1 (cE y)])=(.cV [.A (R x),.sl .N 1 (cE y)],t):=rfl
def Vs(s:X)(p:s.length=32)(S:Z):W N C 30 [.A (R s)] S=J (.A (R (gX (cq s))),S):=by
 have w:=λS=>NC s p S;have x:=λt=>Zn t (cq s) (j_ s);have q:=xB s;have r:=Q0;have u:=λT=>T3 oK HO (cq s) q T;have o:=λT=>Nw (P3.mul (cq s) 256 0 oK iM) (P3.P2 _ _ _ _ _ HO J5) T;rw[show(P3.mul (cq s) 256 0 oK iM).bytes=gX (cq s)from rfl]at o;have h:(R s).length=32:=by simp[p]
 have e:cU (R s):=aF _;have k:=bA h e;have i:(R (cq s)).length=32:=by simp[q]
 have f:cU (R (cq s)):=aF _;have l:=bA i f;have j:(R (gX (cq s))).length=32:=by simp[sM]
 have g:cU (R (gX (cq s))):=aF _;have m:=bA j g;have v:aK.length=32:=rfl;generalize R (gX (cq s))=b,P3.mul (cq s) 256 0 oK iM=c,oK=a,R (cq s)=n,cE (j_ s)=y,R s=E at*;have z:(AV.A E).cells=E:=rfl;have A:(AV.A n).cells=n:=rfl;have I:(AV.A b).cells=b:=rfl;rw[jC aGX];generalize P:aK=d at*;simp-implicitDefEqProofs [h,e,k,w,x,bF,i,f,l,r,u,o,j,g,m,v, -B, -AV.cells, -aW]
def ZC(x y:X)(i:Nat):X:=cpB x i++cpB y i
theorem aei(x y:X)(i:Nat)(a:32<=x.length)(b:32<=y.length)(h:i<=32):(ZC x y i).length=64:=by grind [ZC,Wz]
def ao4(x y:X)(i:Nat)(a:32<=x.length)(b:32<=y.length)(h:i<32):((ZC x y i).set i (x.getD i 0)).set (32+i) (y.getD i 0)=ZC x y (i+1):=by grind [ZC,Wz,aeh]
def ab5(f z:X)(hf:f.length=32)(hz:z.length=32)(b0 c b2 d g h:de)(S:Z)(ag:bV):∀n i:Nat,i+n=32->
 DC N C (.L uN) ⟨[(6,.P (S.length+2) 0),(10,.P (S.length+5) 0),(12,.P (S.length+7) 0),(13,.P (S.length+8) 0),(14,.I Y (i:Int))],ag,S.length⟩
  (S++[b0,c,b2,d,g,.M (R f) [] O,h,.M (R z) [] O,.M (R (ZC f z i)) [] O])=
  J (.E 0,⟨[(6,.P (S.length+2) 0),(13,.P (S.length+8) 0)],ag,S.length⟩,S++[b0,c,b2,d,g,.M (R f) [] O,h,.M (R z) [] O,.M (R (f++z)) [] O]):=by
 intro n;induction n with
 |zero=>
  intro i s;have e:i=32:=V;subst e;rw[show ZC f z 32=f++z by grind [ZC,Zk]];simp[aj,aO jB]
 |succ n t=>
  intro i s;have k:i<32:=V;have q:=t (i+1) V;have r:B .add (.I Y 32) (.I Y (i:Int))=J (.I Y ((32+i:Nat):Int)):=atL 32 i V;have o:=N4 (n:=32) (i:=S.length+5) k;have p:=N4 (n:=32) (i:=S.length+7) k;have l:=N4 (n:=64) (i:=S.length+8) (show i<64 by omega);have m:=N4 (n:=64) (i:=S.length+8) (show 32+i<64 by omega);have u:∀b,aX (S++[b0,c,b2,d,g,.M (R f) [] O,h,.M (R z) [] O,b]) .C (.P (S.length+5) i)=J (bq (f.getD i 0)):=λb=>U7 (cr S _ 5) V;have v:∀b,aX (S++[b0,c,b2,d,g,.M (R f) [] O,h,.M (R z) [] O,b]) .C (.P (S.length+7) i)=J (bq (z.getD i 0)):=λb=>U7 (cr S _ 7) V;have w:ba ag S.length (S++[b0,c,b2,d,g,.M (R f) [] O,h,.M (R z) [] O,.M (R (ZC f z i)) [] O]) 1 (.P (S.length+8) i) (bq (f.getD i 0))=J (ag,S++[b0,c,b2,d,g,.M (R f) [] O,h,.M (R z) [] O,.M (R ((ZC f z i).set i (f.getD i 0))) [] O]):=by rw[st8 (cr S _ 8) (by grind [aei])];simp
  have x:ba ag S.length (S++[b0,c,b2,d,g,.M (R f) [] O,h,.M (R z) [] O,.M (R ((ZC f z i).set i (f.getD i 0))) [] O]) 1 (.P (S.length+8) (32+i)) (bq (z.getD i 0))=J (ag,S++[b0,c,b2,d,g,.M (R f) [] O,h,.M (R z) [] O,.M (R (ZC f z (i+1))) [] O]):=by rw[st8 (cr S _ 8) (by grind [aei]),ao4 _ _ _ V V k];simp
  generalize R ((ZC f z i).set i (f.getD i 0))=E,R (ZC f z i)=y,R (ZC f z (i+1))=A,R (f++z)=a,R f=I,R z=P,bq (f.getD i 0)=T,bq (z.getD i 0)=cb,((32+i:Nat):Int)=j,32+i=jn at*;rw[aj,aO jB];simp-implicitDefEqProofs [-B, -jS,ds,(V:(i:Int)<32),r,o,p,l,m,u,v,w,x,ej];rw[ab jB];try simp at q
  simp-implicitDefEqProofs [-B,(aR V:dh Y ((i:Int)+1)=((i+1:Nat):Int)),q]
def Ue{S:Z}{l:List de}{k n:Nat}{b:X}{bt:bV}{q:Bool}(h:l[k]? =J (.M (R b) bt q))(a:b.length=n):bZ (S++l) (.cg (S.length+k) 0 n n 1)=J (1,cE b):=by
 have:=Bb (S:=S) (off:=0) (n:=n) (c:=n) h V
 grind
def Vr(s m:X)(hs:s.length=32)(hm:m.length<=1000000)(S:Z):W N C 75 [.A (R s),.A (R (gX (cq s))),dw m] S=J (.A (R (Ad s m)),S):=by
 have sp:=λS=>NC s hs S;have tk:=λt=>Zn t (cq s) (j_ s);have y:=xB s;have I:=MD s;have q:=sM (cq s);have z:(uz s m).length=32:=xC _;have o:(kX s m).length=32:=sM _;have lK:(FE s m).length=32:=xC _;have lZ:(zd s m).length=32:=qC _ _;have p:ml (.sl .X 1 []) [] []:=.inr (.inl rfl);have P:aK.length=32:=rfl;have w:bw.length=64:=rfl;have z0:R (ZC (kX s m) (zd s m) 0)=bw:=by rfl
 have⟨o1,t1,a1,a2⟩:=d_.N6 p (xs:=cE (j_ s)) (x:=.sl .N 1 (cE (j_ s))) (S:=S++[.M (R s) [] O,.M (R (gX (cq s))) [] O,.M bw [] O,.M (R (cq s)) [] O]) (by simp[I]) ⟨1,rfl,λ_=>rfl⟩;have r:ml o1 t1 (j_ s):=by simpa[ml,cE]using a2
 have⟨o2,t2,b1,b2⟩:=d_.N6 r (xs:=cE m) (x:=dw m) (S:=S++[.M (R s) [] O,.M (R (gX (cq s))) [] O,.M bw [] O,.M (R (cq s)) [] O]) (by simp[I];omega) (Lb m _);have j:ml o2 t2 (j_ s++m):=by simpa[ml,cE]using b2
 have g1:=d_.Gh j;have g2:dT (aV o2)=dw (j_ s++m):=d_.dT j;have g3:=d_.lock j;have g4:=d_.tj j;have h1:=λT=>Rm (j_ s++m) (by grind) T;rw[show pB (j_ s++m)=uz s m from rfl]at h1;have fB:=Q0;have fm:=λT=>T3 oK HO (uz s m) z T;have fy:=λT=>Nw (P3.mul (uz s m) 256 0 oK iM) (P3.P2 _ _ _ _ _ HO J5) T;rw[show(P3.mul (uz s m) 256 0 oK iM).bytes=kX s m from rfl]at fy;have e1:∀A a b c E d,bZ (S++[A,a,b,c,E,.M (R (kX s m)) [] O,d]) (.cg (S.length+5) 0 32 32 1)=J (1,cE (kX s m)):=λA a b c E d=>Ue (l:=[A,a,b,c,E,.M (R (kX s m)) [] O,d]) (k:=5) rfl o;have e2:∀A a b c E d,bZ (S++[A,.M (R (gX (cq s))) [] O,a,b,c,E,d]) (.cg (S.length+1) 0 32 32 1)=J (1,cE (gX (cq s))):=λA a b c E d=>Ue (l:=[A,.M (R (gX (cq s))) [] O,a,b,c,E,d]) (k:=1) rfl q;have⟨o3,t3,c1,c2⟩:=d_.N6 (d_.more p t2) (xs:=cE (kX s m)) (x:=.cg (S.length+5) 0 32 32 1) (S:=S++[.M (R s) [] O,.M (R (gX (cq s))) [] O,.M bw [] O,.M (R (cq s)) [] O,.M (R (uz s m)) [] O,.M (R (kX s m)) [] O,.M aK [] O]) (by simp[o]) ⟨1,e1 _ _ _ _ _ _,λ_=>rfl⟩;have u:ml o3 t3 (kX s m):=by simpa[ml,cE]using c2
 have⟨o4,t4,d1,d2⟩:=d_.N6 u (xs:=cE (gX (cq s))) (x:=.cg (S.length+1) 0 32 32 1) (S:=S++[.M (R s) [] O,.M (R (gX (cq s))) [] O,.M bw [] O,.M (R (cq s)) [] O,.M (R (uz s m)) [] O,.M (R (kX s m)) [] O,.M aK [] O]) (by simp[o,q]) ⟨1,e2 _ _ _ _ _ _,λ_=>rfl⟩;have v:ml o4 t4 (kX s m++gX (cq s)):=by simpa[ml,cE]using d2
 have⟨o5,t5,f1,f2⟩:=d_.N6 v (xs:=cE m) (x:=dw m) (S:=S++[.M (R s) [] O,.M (R (gX (cq s))) [] O,.M bw [] O,.M (R (cq s)) [] O,.M (R (uz s m)) [] O,.M (R (kX s m)) [] O,.M aK [] O]) (by simp[o,q];omega) (Lb m _);have n:ml o5 t5 (kX s m++(gX (cq s)++m)):=by simp_all[ml]
 have q1:=d_.Gh n;have q2:dT (aV o5)=dw (kX s m++(gX (cq s)++m)):=d_.dT n;have q3:=d_.lock n;have q4:=d_.tj n;have h2:=λT=>Rm (kX s m++(gX (cq s)++m)) (by simp[o,q];omega) T;rw[show pB (kX s m++(gX (cq s)++m))=FE s m from rfl]at h2;have ma:=λT=>VH (FE s m) (cq s) (uz s m) lK y z T;rw[show ig 32 ((dp (FE s m)*dp (cq s)+dp (uz s m))%qN)=zd s m from rfl]at ma;have e:=ab5 (kX s m) (zd s m) o lZ (.M (R s) [] O) (.M (R (gX (cq s))) [] O) (.M bw [] O) (.M (R (cq s)) [] O) (.M (R (uz s m)) [] O) (.M (R (FE s m)) [] O) S t5 32 0 rfl;rw[z0,show kX s m++zd s m=Ad s m from rfl]at e;have w1:(R s).length=32:=by simp[hs]
 have x1:cU (R s):=aF _;have k1:=bA w1 x1;have w2:(R (cq s)).length=32:=by simp[y]
 have x2:cU (R (cq s)):=aF _;have k2:=bA w2 x2;have w3:(R (gX (cq s))).length=32:=by simp[q]
 have x3:cU (R (gX (cq s))):=aF _;have w4:(R (uz s m)).length=32:=by rfl
 have x4:cU (R (uz s m)):=aF _;have k4:=bA w4 x4;have w5:(R (kX s m)).length=32:=by simp[o]
 have x5:cU (R (kX s m)):=aF _;have w6:(R (FE s m)).length=32:=by rfl
 have x6:cU (R (FE s m)):=aF _;have k6:=bA w6 x6;have w7:(R (zd s m)).length=32:=by rfl
 have x7:cU (R (zd s m)):=aF _;have w8:(R (Ad s m)).length=64:=by simp[GH]
 have x8:cU (R (Ad s m)):=aF _;have k8:=bA w8 x8;have bo:fh 1 (fg 0 [AV.I L 0]) []=J []:=rfl;try simp at bo
 clear a2 r b2 j c2 u d2 v f2 n e1 e2 p y I q z o lK lZ;generalize R (Ad s m)=EB,R (zd s m)=EZ,R (FE s m)=EH,R (kX s m)=EF,P3.mul (uz s m) 256 0 oK iM=g,R (uz s m)=ER,oK=a,R (gX (cq s))=EP,R (cq s)=EN,cE (j_ s)=BS,R s=E,dw (j_ s++m)=M1,dw (kX s m++(gX (cq s)++m))=M2,dw m=f at*;have y1:(AV.A E).cells=E:=rfl;have y2:(AV.A EN).cells=EN:=rfl;have y3:(AV.A EP).cells=EP:=rfl;have y4:(AV.A ER).cells=ER:=rfl;have y5:(AV.A EF).cells=EF:=rfl;have y6:(AV.A EH).cells=EH:=rfl;have y7:(AV.A EZ).cells=EZ:=rfl;have y8:(AV.A EB).cells=EB:=rfl;rw[LB aHj];try simp only[ab3]
 generalize aK=i,bw=h at*;try simp at a1
 try simp at b1
 try simp at c1
 try simp at d1
 try simp at f1
 simp-implicitDefEqProofs [w1,x1,k1,w3,x3,sp,tk,bF,w2,x2,k2,bo,a1,b1,g1,g2,g3,g4,cQ,b_,h1,w4,x4,k4,fB,fm,fy,w5,x5,qq,c1,d1,f1,q1,q2,q3,q4,h2,w6,x6,k6,ma,w7,x7,P,w, -B, -AV.cells, -aW];rw[ab jB];try simp at e
 simp-implicitDefEqProofs [e,w8,x8,k8,w, -B, -AV.cells, -aW]
def Vq(s:X)(v:s.length=32)(e:bd)(p:e.Wf)(hb:e.cM=G)(hl:(e.wk (gX (cq s))).dH.length<=1000000)(S:Z):
 W N C 29 [.A (R s),.A (R (gX (cq s))),.A e.aq] S=J (.A ((e.wk (gX (cq s))).ws (Ad s (e.wk (gX (cq s))).dH)).aq,S):=by
 have A:=p.toOk;have u:=sM (cq s);have q:=GH s (e.wk (gX (cq s))).dH;have sb:=λT=>Vr s (e.wk (gX (cq s))).dH v hl T;generalize gX (cq s)=k at*;have j:(e.wk k).Wf:=bd.TC p u;have P:=j.toOk;have h2:((e.wk k).ws (Ad s (e.wk k).dH)).Wf:=bd.ac5 j q;have A2:=h2.toOk;have⟨r,w,x⟩:=Qh (e.wk k) j hb (S++[.M (R s) [] O,.M (R k) [] O,.M (e.wk k).aq [] O,.M bH [] O]);have⟨o,t,n,i⟩:=w.1.take [];have g1:=d_.Gh i;have g2:dT (aV o)=dw (e.wk k).dH:=d_.dT i;have g3:=d_.lock i;have g4:=d_.tj i;have y:(R s).length=32:=by simp[v]
 have E:cU (R s):=aF _;have k1:=bA y E;have z:(R k).length=32:=by simp[u]
 have I:cU (R k):=aF _;have k2:=bA z I;have hz:bH.length=160:=rfl;have y2:(AV.A (R k)).cells=R k:=rfl;have sk:∀a b c,ba [] S.length (S++[a,b,.M e.aq [] O,c]) 32 (.P (S.length+2) 64) (.A (R k))=J ([],S++[a,b,.M (e.wk k).aq [] O,c]):=λa b c=>by simp_all[bd.Vp]
 generalize hG:Ad s (e.wk k).dH=g at*;have y3:(AV.A (R g)).cells=R g:=rfl;have w3:(R g).length=64:=by simp[q]
 have x3:cU (R g):=aF _;have sg:∀h a b c,ba h S.length (S++[a,b,.M (e.wk k).aq [] O,c]) 64 (.P (S.length+2) 96) (.A (R g))=J (h,S++[a,b,.M ((e.wk k).ws g).aq [] O,c]):=λh a b c=>by simp_all[bd.ac6]
 have dE:=bd.jh ((e.wk k).ws g);have l:∀h a b c,ba h S.length (S++[a,b,c,.M bH [] O]) 160 (.P (S.length+3) 0) (.A ((e.wk k).ws g).aq)=J (h,S++[a,b,c,.M ((e.wk k).ws g).aq [] O]):=λh a b c=>by simp_all
 clear i w hG;generalize(e.wk k).ws g=f,e.wk k=d at*;generalize R k=EK,R g=EG,R s=m,dw d.dH=BD at*;have y1:(AV.A m).cells=m:=rfl;rw[LB aFH];generalize hZ:bH=c at*;try simp at n
 try simp at x
 simp-implicitDefEqProofs [A,P,A2,y,E,k1,z,I,k2,sk,x,n,g1,g2,g3,g4,cQ,b_,sb,w3,x3,sg,l, -B]
def aa4(s:X)(g:s.length=32)(e:bd)(d:e.Wf)(m:e.cM=G)(o:(e.wk (gX (cq s))).dH.length<=1000000)(S:Z):
 W N C 12 [.A (R s),.A e.aq] S=J (.A ((e.wk (gX (cq s))).ws (Ad s (e.wk (gX (cq s))).dH)).aq,S):=by
 have A:=d.toOk;have n:=sM (cq s);have q:=λT=>Vs s g T;have r:=λT=>Vq s g e d m o T;have l:((e.wk (gX (cq s))).ws (Ad s (e.wk (gX (cq s))).dH)).Ok:=(bd.ac5 (bd.TC d n) (GH _ _)).toOk;have j:(R s).length=32:=by simp[g]
 have k:cU (R s):=aF _;have p:=bA j k;have t:cU (R (gX (cq s))):=aF _;have x:bH.length=160:=rfl;generalize(e.wk (gX (cq s))).ws (Ad s (e.wk (gX (cq s))).dH)=f at*;have v:=bd.jh f;have h:∀a b,ba [] S.length (S++[a,b,.M bH [] O]) 160 (.P (S.length+2) 0) (.A f.aq)=J ([],S++[a,b,.M f.aq [] O]):=λa b=>by simp_all
 generalize R (gX (cq s))=u,R s=i at*;have y:(AV.A i).cells=i:=rfl;rw[jN aFI];generalize w:bH=c at*;simp-implicitDefEqProofs [A,l,j,k,p,t,q,r,h, -B]
def frc{α:Type}(n:Nat)(k:Nat->α):α:=match n with
 |0=>k 0
 |m+1=>k (m+1)
def WA{α:Type}(n:Nat)(k:Nat->α):frc n k=k n:=by cases n<;>rfl
def P3.frc{α:Type}(p:P3)(k:P3->α):α:=am.frc p.x λx=>am.frc p.y λy=>am.frc p.z λz=>k ⟨x,y,z⟩
def P3.WA{α:Type}(p:P3)(k:P3->α):p.frc k=k p:=by simp[P3.frc,am.WA]
def aga(d:Nat)(b:X):Nat->Nat->P3->P3->P3
 |0,_,_,o=>o
 |n+1,i,x,o=>(x.add x d).frc λy=>(if Qn b i=G then o.add x d else o).frc λp=>aga d b n (i+1) y p
def ao6(b:X):∀n i x o,aga uR b n i x o=P3.mul b n i x o:=by
 intro n;induction n with
 |zero=>intros;rfl
 |succ n a=>intro i x o;rw[aga,P3.WA,P3.WA,a];rfl
def aCP:(aga 37095705934669439343138083508754565189542113879843219016388785533085940283555 (ig 32 qN) 256 0 ⟨bX,bY,1⟩ iM).x=0/\(aga 37095705934669439343138083508754565189542113879843219016388785533085940283555 (ig 32 qN) 256 0 ⟨bX,bY,1⟩ iM).y=(aga 37095705934669439343138083508754565189542113879843219016388785533085940283555 (ig 32 qN) 256 0 ⟨bX,bY,1⟩ iM).z:=
 ⟨by kernel_rfl,by kernel_rfl⟩
def aek{ch:Nat}[NeZero ch][PX ch]:(EP.zero:EP ch).x=0/\(EP.zero:EP ch).y=1:=⟨rfl,rfl⟩
def auG{y z i:Zp}(h:z=y*z)(a:z*i=1):y=1:=by grind
def auH:EP.Ce qN bE=EP.zero:=by
 have h:=xd (ig 32 qN) (qC _ _) CP;rw[z8,show qN %256^32=qN by decide,Gd,<-ao6,HP]at h;have⟨a,b⟩:=aCP;have⟨z,x,y⟩:=h;rw[a,tV]at x;rw[b]at y;apply EP.ext;·rw[aek.1];exact(DN x.symm).resolve_right z
 ·rw[aek.2];exact auG y (PX.yf _ z)
def EP.neg_add(p:EP F):p.neg.add p=EP.zero:=by
 have b:=p.on;have a:=PX.yf _ (den p.neg p).2;apply EP.ext
 ·show(-p.x*p.y+p.x*p.y)*_=0
  grind
 ·show(p.y*p.y+ -p.x*p.x)*_=1
  have e:1 -tt p.neg p=p.y*p.y+ -p.x*p.x:=by
   show 1 -PX.d* -p.x*p.x*p.y*p.y=_
   grind
  grind
theorem EP.add_zero(p:EP F):p.add EP.zero=p:=by rw[EP.add_comm,EP.zero_add]
def Zr:∀n,EP.Ce n (EP.zero:EP F)=EP.zero
 |0=>rfl
 |n+1=>by rw[EP.Ce,Zr n,EP.zero_add]
theorem ael(p:EP F):∀n,(EP.Ce n p).add (EP.Ce n p.neg)=EP.zero
 |0=>EP.zero_add _
 |n+1=>by rw[EP.Ce,EP.Ce,EP.add_assoc,EP.add_comm (EP.Ce n p.neg),<-EP.add_assoc p,EP.add_comm p p.neg,EP.neg_add,EP.zero_add,ael p n]
theorem ao7(n:Nat):EP.Ce (n %qN) bE=EP.Ce n bE:=by
 have h:n=n/qN*qN+n %qN:=by grind [qN]
 have e:=congrArg (EP.Ce · bE) h;rw[e,EP.DO,EP.Ov,auH,Zr,EP.zero_add]
def ao8(k n r:Nat):(EP.Ce ((k*n+r)%qN) bE).add (EP.Ce k (EP.Ce n bE).neg)=EP.Ce r bE:=by grind [ao7,EP.DO,EP.Ov,EP.add_assoc,ael,EP.add_zero]
def ao9(p q w E k h m r:Nat)(a:E+E=k+1)(b:k+k=h)(c:2*h=m)(d:q=w*w %p)(f:w^m %p=1)(e:r=q^E %p):
 r*r %p=q*(q^k %p)%p/\q^k %p*(q^k %p)%p=1:=by
 constructor;·rw[e,<-AM,<-p7,a,uo,uD,AM q (q^k %p),Nat.mod_mod,<-AM]
 ·rw[<-AM,<-p7,b,d,<-EJ,<-Nat.pow_two,<-uE,c,f]
theorem alB{s:Nat}(c:s<F)(h:s*s %F=1):s=1\/fi s= -1:=by
 have b:fi s*fi s=1:=by rw[<-nM,<-uq];exact wA.2 (by trivial)
 have a:(fi s -1)*(fi s+1)=0:=by grind
 rcases DN a with e|e;all_goals grind [uq,wA,F]
def aIG{r h s q:Zp}(a:r*r=q*s)(b:s= -1)(c:h*h= -1):r*h*(r*h)=q:=by grind
theorem agb{r q s:Nat}(e:q<F)(b:r*r %F=q*s %F)(d:fi s= -1):r*mB %F*(r*mB %F)%F=q:=by
 have a:=wA.2 b;rw[nM,nM]at a;have c:fi (r*mB %F*(r*mB %F)%F)=fi q:=by grind [zr,nM,P6]
 grind [wA,Nat.mod_mod,fQ]
theorem alC{q w:Nat}(h:q=w*w %F):ou q (jU q)*ou q (jU q)%F=q:=by
 have g:q<F:=by rw[h];exact gH _ fE
 unfold ou;split;·assumption
 ·rename_i c
  have a:=Qo q
  have d:¬F∣w:=λe=>c (by
   have b:q=0:=by grind [Nat.mod_eq_zero_of_dvd]
   rw[b,Nat.zero_pow fE]at a;rw[b,a];decide)
  have f:=P7 amT d;generalize jU q=r at*;have⟨j,k⟩:=ao9 F q w _ ((F -1)/4) ((F -1)/2) (F -1) r fE fE fE h f a;have i:q^((F -1)/4)%F<F:=gH _ fE;clear a f;generalize q^((F -1)/4)%F=s at*
  grind [alB,fQ,agb]
def agc{u v x:Nat}(b:u<F)(c:v<F)(a:v≠0)(h:v*(x*x)%F=u):p_ u v=(uF (ou (mP u v) (jU (mP u v))),G):=by grind [mP,adk,p_,alC]
def alD{p r:Nat}(a:p %2=1)(b:r<p)(h:r %2=1):(0+p -r)%p %2=0:=by have e:(0+p -r)%p=0+p -r:=fQ V;omega
theorem ab6{r:Nat}(a:r<F):uF r %2=0:=by
 unfold uF;split;·exact alD fE a (by assumption)
 ·omega
def alE{p a b:Nat}(e:p %2=1)(c:a<p)(d:b<p)(a2:a %2=0)(b2:b %2=0)(h:(a+b)%p=0):a=b:=by
 rcases oZ (a+b) p with h1|h1;·rw[fQ h1]at h;omega
 ·rw[aaC h1,fQ V]at h;omega
theorem Ug{a b:Nat}(f:a<F)(g:b<F)(a2:a %2=0)(b2:b %2=0)(h:fi a*fi a=fi b*fi b):a=b:=by
 have e:(fi a -fi b)*(fi a+fi b)=0:=by grind
 rcases DN e with e|e;·grind [fi,fQ]
 ·have d:fi (a+b)=fi 0:=by rw[P4,tV];exact e
  have c:=wA.1 d;rw[Nat.zero_mod]at c;exact alE fE f g a2 b2 c
theorem alF{p r:Nat}(a:r<p):(0+p -(p -r))%p=r:=by grind [fQ]
def ao_{p r:Nat}(a:p %2=1)(b:r<p)(h:r %2=1):(p -r)%2=0:=V
def aem{y:Nat}(a:y<F):((ig 32 y).getD 31 0).toNat<128:=by rw[<-AP,z8,fQ (CK a fE)];have h:y/256^31<128:=ab9 (CK a fE);omega
theorem aen{y:Nat}(a:y<F):nD (ig 32 y)=ig 32 y:=by have h:=aem a;simp_all[nD,fQ]
def auI{c:UInt8}(h:c.toNat<128):(cw (c.toNat+128)).toNat=c.toNat+128:=by rw[qE];omega
theorem apa{y:Nat}(a:y<F):nD ((ig 32 y).set 31 (cw (((ig 32 y).getD 31 0).toNat+128)))=ig 32 y:=by
 conv=>rhs;rw[<-aen a]
 simp_all[nD]
def EP.aIH(e:EP F):1+fi uR*(e.y*e.y)≠0:=λh=>by
 have c:(PX.i*e.y)*(PX.i*e.y)*fi uR=(1:Zp):=by
  have:=PX.hi (ch:=F)
  grind
 have a:PX.i*e.y≠(0:Zp):=λb=>by grind
 have b:=PX.yf _ a;refine ahz (PX.inv (PX.i*e.y)) ?_
 grind
theorem alG(q:Nat){r:Nat}(h:r<F):ou q r<F:=by
 unfold ou;split;·exact h
 ·exact gH _ fE
def apb(e:EP F):zq e.bytes=(⟨e.x.val,e.y.val,1⟩,G):=by
 have q:=e.x.isLt;have b:=e.y.isLt;have t:=e.on;have I:=e.aIH;have c:nD e.bytes=ig 32 e.y.val:=by grind [EP.bytes,apa,aen]
 have E:128<=(e.bytes.getD 31 0).toNat↔e.x.val %2=1:=by
  have h:=aem b;unfold EP.bytes;split
  ·rename_i S
   rw[show((ig 32 e.y.val).set 31 (cw (((ig 32 e.y.val).getD 31 0).toNat+128))).getD 31 0=cw (((ig 32 e.y.val).getD 31 0).toNat+128)by rfl,auI h];omega
  ·omega
 have l:dp (ig 32 e.y.val)=e.y.val:=by rw[z8];exact fQ (CK b fE)
 have f:fi e.x.val=e.x:=P5 _;have P:fi e.y.val=e.y:=P5 _;have r:(tG e.bytes).2=G/\(tG e.bytes).1 %2=0/\(tG e.bytes).1<F/\fi (tG e.bytes).1*fi (tG e.bytes).1=e.x*e.x:=by
  unfold tG;rw[c,l,fQ b];have j:mS (mM e.y.val e.y.val) 1<F:=gH _ fE;have k:mA (mM uR (mM e.y.val e.y.val)) 1<F:=gH _ fE;have n:fi (mS (mM e.y.val e.y.val) 1)=e.y*e.y -1:=by grind [Nb,J7,uq]
  have d:fi (mA (mM uR (mM e.y.val e.y.val)) 1)=1+fi uR*(e.y*e.y):=by grind [X0,J7,uq]
  generalize mS (mM e.y.val e.y.val) 1=u,mA (mM uR (mM e.y.val e.y.val)) 1=v at*;have o:v≠0:=λh=>I (by rw[<-d,h,tV]);have g:v*(e.x.val*e.x.val)%F=u:=by
   have:fi (v*(e.x.val*e.x.val))=fi u:=by
    rw[nM,nM,f,n,d];have w:e.y*e.y=1+e.x*e.x+fi uR*(e.x*e.x)*(e.y*e.y):=t
    grind
   grind [wA,fQ]
  have p:=agc j k o g;have i:(p_ u v).2=G:=by rw[p]
  have sq:=X9 j k i;have s:=Qa u v;have m:(p_ u v).1 %2=0:=by
   have hr:jU (mP u v)<F:=by rw[Qo];exact gH _ fE
   grind [ab6,alG]
  refine⟨i,m,s, ?_⟩;have q1:fi v*(e.x*e.x)=fi u:=by rw[<-g,zr,nM,nM,f]
  have vi:=PX.yf (fi v) (by grind)
  grind
 have⟨x,y,z,A⟩:=r;unfold zq;rw[c,l,if_pos b,x,fQ b];generalize(tG e.bytes).1=a at*;by_cases h:e.x.val %2=1
 ·have ne:e.x.val≠0:=V
  have T:F -e.x.val=a:=by
   refine Ug V z (ao_ fE q h) y ?_;rw[A,show fi (F -e.x.val)= -e.x by rfl]
   grind
  grind [mS,alF]
 grind [Ug]
def aeo{n:X}(a:n.length=32):gX n=(EP.Ce (dp n) bE).bytes:=by rw[show gX n=(P3.mul n 256 0 oK iM).bytes from rfl,HN (xd n a CP) (P3.P2 n 256 0 _ _ HO J5).2.2]
def alH(s m:X):(uz s m).length=32:=xC _
def alI(s m:X):(zd s m).length=32:=qC _ _
def Zs(s m:X):dp (zd s m)=(dp (FE s m)*dp (cq s)+dp (uz s m))%qN:=by unfold zd;rw[z8];exact fQ (CK (gH _ fE) fE)
theorem agd(x:Zp):x=x*fi 1:=by rw[uq];grind
def apc(e:EP F):(⟨e.x.val,e.y.val,1⟩:P3).rep e:=by refine⟨aaL, ?_, ?_⟩;all_goals grind [P5,agd]
def apd(A:EP F)(k z:X)(b:k.length=32)(c:z.length=32):((P3.mul z 256 0 oK iM).add (P3.mul k 256 0 (P3.neg ⟨A.x.val,A.y.val,1⟩) iM) uR).bytes=((EP.Ce (dp z) bE).add (EP.Ce (dp k) A.neg)).bytes:=by have a:=xd k b (acI (apc A) A.x.isLt);exact HN (Ou (xd z c CP) a) (P3.Jg _ _ _).2.2
def ane(s m:X):aa3 (gX (cq s)) (Ad s m) m=G:=by
 have a:(kX s m).length=32:=sM _;have f:(Ad s m).take 32=kX s m:=PS a;have g:(Ad s m).drop 32=zd s m:=List.drop_left' a;have d:=apb (EP.Ce (dp (cq s)) bE);rw[<-aeo (xB s)]at d;have c:dp (zd s m)<qN:=by rw[Zs];exact gH _ fE
 have b:pB (kX s m++(gX (cq s)++m))=FE s m:=rfl;have e:(RS (gX (cq s)) (FE s m) (zd s m)).bytes=kX s m:=by unfold RS;rw[d];refine(apd _ _ _ (xC _) (alI s m)).trans ?_;rw[b,Zs,ao8];exact(aeo (alH s m)).symm
 simp_all[aa3]
def amM:(λa b=>F1 N C 1000 5 [] [a,b])=λa b=>J (.B G,[a,b]):=by kernel_rfl
def amN:(λa b c=>F1 N C 1000 5 [] [a,b,c])=λa b c=>J (.B G,[a,b,c]):=by kernel_rfl
def ahq(a b:de):W N C 5 [] [a,b]=J (.B G,[a,b]):=(HH _).2 ⟨1000,congrFun (congrFun amM a) b⟩
def ahr(a b c:de):W N C 5 [] [a,b,c]=J (.B G,[a,b,c]):=(HH _).2 ⟨1000,congrFun (congrFun (congrFun amN a) b) c⟩
def Ie(n:Int)(S:Z):W N C 9 [.kv 71 (.I Y n)] S=J (.I Y n,S):=by rw[jC e_9];simp[ec,pK,asP,aa5,aW,aV,bG,bK,bh,oj,dT,eE,aY,dx]
def xm:bd:=⟨0,fg 32 0,[],zOp,afh,fg 32 0,fg 64 0⟩
def aa6:xm.aq=bH.map eE:=by rfl
def TD:xm.Ok:=⟨rfl,by nofun,rfl,rfl⟩
def Kj:xm.iH:=⟨TD,by decide,LM,Jj⟩
def bd.asu{e:bd}(A:e.Ok){k:X}(a:k.length=32):(e.wk k).bytes.length=e.bytes.length:=by grind [bd.bytes,bd.dH,bd.part,bd.wk,A.gg]
def R8(s:X)(hs:s.length=32)(e:bd)(l:e.Wf)(S:Z)
 (w1:∀a b,W N C 5 [] (S++[a,b])=J (.B G,S++[a,b]))
 (w2:∀a b c,W N C 5 [] (S++[a,b,c])=J (.B G,S++[a,b,c])):
 W N C 3 [.A (R s),.A e.aq] S=J (.B G,S):=by
 have A:=l.toOk;have⟨g,c0,hg⟩:=Gx e l (S++[.M (R s) [] O,.M e.aq [] O]);have u:(R s).length=32:=by simp[hs]
 have m:cU (R s):=aF _;have pk1:=bA u m;rw[jN e_3];have c1:(AV.A (R s)).cells=R s:=rfl;cases g with
 |true=>
  generalize R s=ES at*;simp-implicitDefEqProofs [A,c0,w1,u,m, -B]
 |false=>
  have hf:=hg rfl;have hz:bH.length=160:=rfl;have b1:ec .eql (.kv fV) G .dj .dj=J (.B G):=rfl;have bb:∀q,ec .eql .B O (.B q) (.B q)=J (.B G):=λq=>by simp
  have pu:=λT=>IP s hs T;have so:=λT=>Gu e l hf T;have wl:=bd.asu A (sM (cq s));cases v:(e.cM&&ck ((e.wk (gX (cq s))).bytes.length<=4096))with
  |false=>
   have⟨n,hn,sn⟩:=NQ s (gX (cq s)) hs (sM _) e l v (S++[.M (R s) [] O,.M e.aq [] O]) pu;have s1:=λT=>GG e l T;have se:e.HS=O:=by grind [bd.HS]
   rw[se]at s1;rw[<-aa6]at sn;have sm:=λT=>zR xm xm Kj Kj T;have ss:same xm xm=G:=Tw _;rw[ss]at sm;have i:=TD;have zn:dT (.A bH)=.A xm.aq:=rfl;have zg:∀T,bG T (.A bH)=J (.A bH):=λ_=>rfl;have zk:∀T,bK T (.A bH)=T:=λ_=>rfl;have zu:∀T T',bh T T' (.A bH)=T':=λ_ _=>rfl;have zf:dk bH []=J bH:=rfl;have E:∀d h,ba [] S.length (S++[d,h,.M bH [] O]) 160 (.P (S.length+2) 0) (.A xm.aq)=J ([],S++[d,h,.M xm.aq [] O]):=λd h=>by simp_all
   have tkN:∀t,aY t (.cV [.A xm.aq,.kv 71 (.I Y n)])=(.cV [.A xm.aq,.kv 71 (.I Y n)],t):=λ_=>rfl;have ge:∀T,bG T (.kv 71 (.I Y n))=J (.kv 71 (.I Y n)):=λ_=>rfl;have cc:=λT=>Ie n T;generalize xm=z at*;cases j:e.cM with
   |false=>
    rw[j]at so;rw[j,if_neg ca]at hn;subst hn;have re:=nh;generalize R s=ES,bH=ZK at*;try simp at sn
    simp-implicitDefEqProofs [re,A,i,c0,u,m,pk1,sn,tkN,bF,E,so,bT,cc,ge,sm,zn,zg,zk,zu,zf,s1,w2,cQ,b_]
   |true=>
    rw[j]at so;rw[j,if_pos rfl]at hn;subst hn;rw[j,wl]at v;have hl:4096<e.bytes.length:=by simp_all
    have⟨r,r1,r2⟩:=Ni e l j (bd.ac4 l j) (S++[.M (R s) [] O,.M e.aq [] O,.M z.aq [] O]);have⟨o,t,a1,a2⟩:=r1.1.take [];have lo:=d_.len a2;rw[xG]at lo;have P:(4096:Int)<(e.bytes.length:Int):=V;have re:=nh;generalize R s=ES,bH=ZK at*;try simp at sn
    try simp at r2
    try simp at a1
    simp-implicitDefEqProofs [re,A,i,c0,u,m,pk1,sn,tkN,bF,E,so,bT,r2,a1,lo,P,cc,ge,sm,zn,zg,zk,zu,zf,s1,w2,cQ,b_]
  |true=>
   have w:=v;simp only[mz,decide_eq_true_eq]at w;have⟨j,hl⟩:=w;have I:=sM (cq s);have bl:=bd.Av (bd.TC l I).toOk;have rsn:=λT=>aa4 s hs e l j V T;have vs:=ane s (e.wk (gX (cq s))).dH;generalize hK:gX (cq s)=k at*;have hd:(e.wk k).Wf:=bd.TC l I;have bne:(e.wk k).dH≠[]:=by nofun
   have eR:AV.sl .N 1 [[.sl .N 1 (cE (e.wk k).dH)]]=pQ [(dw (e.wk k).dH,(e.wk k).dH)]:=by rfl
   have sg:=λT=>Yp s hs [(dw (e.wk k).dH,(e.wk k).dH)] T (λp hp=>by grind [Nj]) ca (by simp[cx];omega);rw[<-eR,show cx [(dw (e.wk k).dH,(e.wk k).dH)]=(e.wk k).dH by simp[cx]]at sg;have hgl:=GH s (e.wk k).dH;generalize Ad s (e.wk k).dH=g at*;have so2:=NR s k g hs I hgl e l v (S++[.M (R s) [] O,.M e.aq [] O]) pu sg;have y:((e.wk k).ws g).Wf:=bd.ac5 hd hgl;have A2:=y.toOk;have sf:((e.wk k).ws g).HS=G:=by
    have b2:=bd.Av A2;rw[bd.ac7]at b2;have q1:((e.wk k).ws g).cM=G:=j;have q2:aa3 ((e.wk k).ws g).gg ((e.wk k).ws g).je ((e.wk k).ws g).dH=G:=vs
    grind [bd.HS]
   have s1:=λT=>GG ((e.wk k).ws g) y T;rw[sf]at s1;have sm:=λT=>zR ((e.wk k).ws g) ((e.wk k).ws g) y.mm y.mm T;have ss:same ((e.wk k).ws g) ((e.wk k).ws g)=G:=Tw _;rw[ss]at sm;have⟨r,r1,r2⟩:=Ni e l j (bd.ac4 l j) (S++[.M (R s) [] O,.M e.aq [] O,.M ((e.wk k).ws g).aq [] O]);have⟨o,t,a1,a2⟩:=r1.1.take [];have lo:=d_.len a2;rw[xG]at lo;have P:¬(4096:Int)<(e.bytes.length:Int):=V;rw[j]at so;clear sg eR bne bl j v w pu hd vs sf ss hl a2 r1 wl;generalize(e.wk k).ws g=f at*;have dE:=bd.jh f;have E:∀x d h,ba x S.length (S++[d,h,.M bH [] O]) 160 (.P (S.length+2) 0) (.A f.aq)=J (x,S++[d,h,.M f.aq [] O]):=λx d h=>by simp_all
   have tkF:∀t,aY t (.cV [.A f.aq,.dj])=(.cV [.A f.aq,.dj],t):=λ_=>rfl;generalize R s=ES,bH=ZK at*;try simp at so2
   try simp at r2
   try simp at a1
   simp-implicitDefEqProofs [qy,A,A2,c0,u,m,pk1,so2,tkF,bF,E,so,bT,r2,a1,lo,P,b1,rsn,sm,s1,w2,cQ,b_]
def Vt(s:X)(f:s.length=32)(e:bd)(d:e.Wf):W N C 3 [.A (R s),.A e.aq] []=J (.B G,[]):=
 R8 s f e d [] (λa b=>ahq a b) (λa b c=>ahr a b c)
end Go.Proofs.YtefopednbffpaaaGreatDoor.am
namespace Go.Proofs.YtefopednbffpaaaGreatDoor.entrySigns
open Go Go.RowKit Go.ChangeShapes Go.Proofs.YtefopednbffpaaaGreatDoor.am
open Option renaming some->J,none->D
open Bool renaming false->O,true->G,and_eq_true->mz
open Go.IntKind renaming i64->Y,wrap->dh,u64->U,u8->L
open UInt8 renaming ofNat->cw,toNat_ofNat'->qE
open Decidable renaming decide->ck
open List renaming drop_eq_nil_of_le->jM,replicate->fg,take_of_length_le->oL,append_assoc->s_
open Nat renaming mod_eq_of_lt->fQ,div_div_eq_div_mul->th,mod_lt->gH,lt_of_lt_of_le->zj
open Go renaming TypeId->bS,Program->cO,Value->bC,World->cd
open Go.Proofs.Tryz renaming prog->fF
open Option.some renaming inj->sL
open Go.Proofs.YtefopednbffpaaaGreatDoor.am renaming om->V,St->Z,ay->N,ai->R,nk->C,aM->M,AV->Q,bg->X,au->B,DF->W,pP->F,bJ->K
def own:ownKnob Tryz.prog.godebug=D:=by kernel_rfl
def laidOut:laidOutB fF=G:=by kernel_rfl
def mixed:Tryz.prog.follows .mixedOrders=G:=by kernel_rfl
def anO:Tryz.prog.cellsOf 23=32:=by kernel_rfl
def abB{P:cO}{W:cd}{r:Reach}{base:Nat}{t u:bS}{n:Nat}{v:bC}(a:P.underlying t=J (.array n u))(h:Value.okWide P W r base t v):∃cs,v=.agg cs:=by unfold Value.okWide at h;rw[a]at h;exact h.elim λcs h=>⟨cs,h.1⟩
set_option maxRecDepth 100000 in
def ajU(a:Type)(aq:bS × bC->a)(W:cd)(base:Nat)(args:Array bC)(w gs:List (DataW a))(d:List MemPlace)
 (c:∀(j:Nat) t v,Tryz.f3.params[j]? =J t->args[j]? =J v->Value.okWide fF W .any base t v)
 (z:DataW.Whole aq fF Tryz.f3.params.toList Rows.entrySignsSpec.vars O W args.toList w gs d) (hX:laidMetH fF laidB W):
 Calls fF 3 args W λe u=>∃v,e=.returned v/\Rows.entrySignsSpec.post aq fF Tryz.f3 O G O O W args v u:=by
 have m:=z;obtain⟨p,q,l,hV,rfl,hfz,hnd⟩:=z;have y:DataW.TrodAll aq fF W 0 (λ_=>G) G Tryz.f3.params.toList args.toList w p:=l;rw[Tryz.params3]at y c;obtain⟨E,I,d0,d1,p0,p1,rfl,rfl,rfl,⟨n0,h0⟩,⟨n1,h1⟩⟩:=trodAll_two y;obtain⟨s,hs,o⟩:=Kt (P:=fF) Tryz.underlying23 Tryz.underlying5 adv anO h0;obtain⟨b,hb,r⟩:=ajV n1 _ _ h1;have S:∃k,E=.agg k:=abB Tryz.underlying23 (c 0 23 E (by simp) (by simp));have T:∃k,I=.agg k:=aft Tryz.underlying46 (c 1 46 I (by simp) (by simp));obtain⟨g,rfl⟩:=S;obtain⟨i,rfl⟩:=T;have o:zS W (R s) g.toList:=o;have r:zS W b.aq i.toList:=r;refine(afs (nk:=C) mixed named aB8 aty (Vt s hs b hb) (W:=W) (aB7 hX) (args:= #[.agg g,.agg i]) (by simp) rfl (λj x f=>?_)).mono λe u h=>?_
 ·match j,f with
  |0,f=>simp at f;subst f;exact⟨_,rfl,RVd.agg o⟩
  |1,f=>simp at f;subst f;exact⟨_,rfl,RVd.agg r⟩
  |j+2,f=>simp at f
 ·obtain⟨rfl,n⟩:=h
  refine⟨_,rfl,aio (tb:=4) laidOut (by rw[Tryz.params3];intro t A;simp at A;rcases A with rfl|rfl<;>exact⟨by kernel_rfl,of_decide_eq_true (by kernel_rfl)⟩) rfl (by kernel_rfl) Tryz.underlying4 (λe=>?_) m n⟩;subst e;rfl
set_option maxRecDepth 100000 in
def lifted(os:Os)(d:os.Started)(a:Type)(aq:bS × bC->a):
 ReturnsInHanded {} Tryz.checked os 3 .any (λw c=>(Rows.entrySignsSpec.pre aq fF Tryz.f3 [] O w c/\laidMetH fF laidB w)/\sizedMet aq fF Tryz.f3 (OpenSpec.ofChange Rows.entrySignsSpec) O w c)
  (Rows.entrySignsSpec.post aq fF Tryz.f3 O G O O):=by
 refine returnsInHanded_of_change_and (C:=Tryz.checked) (X:=λw _=>laidMetH fF laidB w) (λ_ _ _ m h=>h.of_heap m) own d (by kernel_rfl) Tryz.func3
  (ChangeSpec.witness_at (enc:=aq) (C:=Tryz.checked) (os:=os) (X:=λw _=>laidMetH fF laidB w) O (Mg os)
   #[.agg (Array.replicate 32 (.int L 0)),.agg (#[.int Y 0]++Array.replicate 32 (.int L 0)++ #[.slice D 0 0]++ #[.int Y 0,.slice D 0 0,.int U 0,.int U 0,.int Y 0,.int Y 0,.string ⟨#[]⟩,.slice D 0 0,.slice D 0 0,.slice D 0 0]++
    #[.int Y 0,.string ⟨#[]⟩,.string ⟨#[]⟩,.int Y 0,.slice D 0 0,.slice D 0 0,.int Y 0,.int Y 0,.string ⟨#[]⟩,.slice D 0 0,.slice D 0 0,.slice D 0 0,.int Y 0,.int Y 0,.string ⟨#[]⟩,.slice D 0 0,.slice D 0 0,.slice D 0 0,.slice D 0 0,.slice D 0 0]++
    Array.replicate 96 (.int L 0))] 8 rfl (by kernel_rfl) (by kernel_rfl) (by kernel_rfl) (by kernel_rfl) (by kernel_rfl) (YI os _)) ?_
 intro b f c i j e g l _ _ k _;exact ajU a aq b f c i j e g l k
def j1:(Rows.entrySignsRow.inPlace==Tryz.pinned.checked.prog.inPlace 3)=G:=by kernel_rfl
def j2:(Rows.entrySignsRow.unfollowed==Tryz.pinned.checked.prog.unfollowed 3)=G:=by kernel_rfl
def j3:(Rows.entrySignsRow.recurses==Tryz.pinned.checked.prog.recurses 3)=G:=by kernel_rfl
def j4:(Rows.entrySignsRow.named==Tryz.pinned.checked.prog.varsNamed 3)=G:=by kernel_rfl
def closed:joinedFacts Tryz.pinned.checked.prog 3 Tryz.f3 Rows.entrySignsSpec Rows.entrySignsRow=G:=by unfold joinedFacts;rw[j1,j2,j3,j4];kernel_rfl
def QB:Rows.EntrySignsSaid:=
 OpenClaim.holds_of_wide 3 Tryz.f3 rfl rfl rfl rfl rfl rfl rfl ⟨rfl,rfl,rfl,rfl,rfl⟩ rfl rfl rfl rfl rfl (by kernel_rfl) Tryz.func3 closed
  (of_decide_eq_true (by kernel_rfl)) (by unfold Func.isWrapper;first|(rw[if_pos (by decide+kernel)];kernel_rfl)|(rw[if_neg (by decide+kernel)];exact⟨rfl,rfl⟩))
  (λd b a c _=>lifted d b a c)
theorem entrySigns_holds:Rows.EntrySignsCardSaid:=
 Claim7.holds_tied_plain_at .later [] [.handle] G (G,"4d0715825ff4c9ec193a3df0aa99873e94105888d3203517a4782dd3f706bf32") G
  QB (λ_ h=>by cases h) (by kernel_rfl) (λ_ h=>by cases h) entrySigns_row_tie rfl ⟨rfl,rfl⟩ (by kernel_rfl) rfl
  (λf c d b=>by
   obtain rfl:f=3:=sL ((show Tryz.prog.funcNamed "dioptre/dioptrelaw17.EntrySigns" =J 3 by kernel_rfl).symm.trans d)|>.symm;obtain rfl:c=Tryz.f3:=(sL (Tryz.func3.symm.trans b)).symm
   exact⟨by kernel_rfl,λj t a=>by
    rw[Tryz.params3]at a;rcases j with _|_|j;·simp at a;subst a;exact(show Tryz.prog.wantsStandIn 23=O by kernel_rfl)
    ·simp at a;subst a;exact(show Tryz.prog.wantsStandIn 46=O by kernel_rfl)
    ·simp at a⟩)
  (by kernel_rfl)
end Go.Proofs.YtefopednbffpaaaGreatDoor.entrySigns
