/- Parts. No condition. -/
import Derived.Test.YteipnkjhnbaipaaGreatDoorQH
set_option linter.all false
namespace Go.Proofs.YteipnkjhnbaipaaGreatDoor.am
open Go
open Option renaming some->J,none->Z
open Bool renaming false->O,true->Y,and_eq_true->j5
open Go.IntKind renaming i64->V,wrap->gh,u64->bm
open Option.some renaming inj->ff
open UInt8 renaming ofNat->dt
open Decidable renaming decide->aN
open List renaming drop_eq_nil_of_le->iy,replicate->eL,length_append->jf,take_of_length_le->ob,length_cons->jI,append_assoc->oH,length_nil->nI
open Go renaming FuncId->db
open Nat renaming le_refl->eI
open BitVec renaming ofInt->j0
open Go.Proofs.YteipnkjhnbaipaaGreatDoor.am renaming St->G,om->D,aG->F,AV->H,nk->W,bu->K
def uJ(k:Int)(a b:H)(ws:List K)(ps:List bM)(c:bO a=cP ws)(d:bO b=oN ps):
 bD (.A [.I V k,a,b])=.A (bM.mk k ws ps).aq:=by
 rw[bM.hO];show AV.A [_,bO a,bO b]=_;rw[c,d];rfl
def xv(k:Int):eR:=.M [.I V k,.ar,.ar] [] O
def Tv:∀(d:Nat)(v:bM),v.Wf->v.ba d=Y->d<1000->∀(S:G)(j:Nat)(r:Rd)(u:K),S[j]? =J (eY j r)->pC r (v.bytes++u)->
 DF F W 241 [.P j 0,.I V (d:Int)] S=J (.A v.aq,S.set j (eY j (r.go v.bytes.length))):=by
 intro d;induction d with
 |zero=>nofun
 |succ d ih=>
  intro v hv h hd S j r u hS hr;have R:=bM.fP h;have hj:j<S.length:=(jF.1 hS).1;have lb:=v.lr;rw[lb]at hr;have R1:=hr.Zc;have hS1:∀b,(S++[b])[j]? =J (eY j r):=λb=>dc _ hS;have y:=Gl (hS1 (.M [.I V 0,.ar,.ar] [] O)) hr;rw[eX _ hj]at y;have hk:((dt v.ae.toNat).toNat:Int)=v.ae:=by have:=R.ae;rw[zT];omega
  rw[hk]at y;have E:gh V v.ae=v.ae:=by have:=R.ae;exact dS D
  have T1:(S.set j (eY j (r.go 1))).length=S.length:=ck;have sg:=λe b=>pg hS e (.M [.I V 0,.ar,.ar] [] O) b;have ss:=λe r'' b=>qX hS e r'' (.M [.I V 0,.ar,.ar] [] O) b;have tkS:∀e z b,(gC S j e z b).take S.length=S.set j (eY j e):=λe z b=>by grind [gC]
  have d0:¬((d:Int)+1=0):=D;have hd1:gh V (d:Int)=(d:Int):=dS D;have T:b6 .neq (.dA cC) Y .aD .aD=J (.B O):=rfl;have fk:∀k:Int,bE [.I V 0,.ar,.ar] [(0,1,.I V k)]=J [.I V k,.ar,.ar]:=λ_=>rfl;have er:=λ{e:Rd}{u':K}(b:eR)(h':pC e u')=>wz (sg e b) h';have C:∀k:Int,a_ [] S.length (S.set j (eY j (r.go 1))++[.M [.I V 0,.ar,.ar] [] O,.M [.I V 0,.ar,.ar] [] O]) 3 (.P (S.length+1) 0) (.A [.I V k,.ar,.ar])=J ([],gC S j (r.go 1) (.M [.I V 0,.ar,.ar] [] O) (xv k)):=λk=>by rw[pA T1 rfl];rfl
  have A:∀(f:ch) e(l:bN) bt,l.length=3->bQ (l.map aH)=Y->a_ f S.length (gC S j e (.M [.I V 0,.ar,.ar] [] O) (.M l bt O)) 3 (.P S.length 0) (.A (l.map aH))=J (f,gC S j e (.M (l.map aH) [] O) (.M l bt O)):=λf e l bt hc hp=>by simp_all[gC,u7]
  have la:∀e z(l:bN) bt,l.length=3->bk (gC S j e z (.M l bt O)) (.A 3) (.P (S.length+1) 0)=J (.A (l.map aH)):=λe z l bt hc=>by rw[kz];exact mL l hc
  have lz:∀e(l:bN) b,l.length=3->(l.map aH).map aH=l.map aH->bk (gC S j e (.M (l.map aH) [] O) b) (.A 3) (.P S.length 0)=J (.A (l.map aH)):=λe l b hc hs=>by simp_all[gC,YG,mL]
  have B:∀e(f:ch)(l:bN) b(w:bM),bD (.A (l.map aH))=.A w.aq->cd 241 f [.A (l.map aH)] S (gC S j e (.M (l.map aH) [] O) b)=J (.A w.aq,S.set j (eY j e)):=λe f l b w s=>by simp[kq,s,bI,tkS]
  have l0:∀e k,bk (gC S j e (.M [.I V 0,.ar,.ar] [] O) (xv k)) .C (.P (S.length+1) 0)=J (.I V k):=λe k=>kz ..;have a:=er (xv v.ae) R1;have q0:∀ws:List K,∀(i:Nat),aH (bS i 0 1 (pE ws))=gO 1 (pE ws):=λws i=>p_ ..;rw[jE ahG];rcases R.ae with k|k|k|k|k|k
  ·have⟨X,h2⟩:=R.S9 (.inl k)
   have M:bM.mk 1 [] []=v:=bM.qd k X h2;have L:v.bytes=[dt v.ae.toNat]:=by simp_all[bM.fa]
   have s:=uJ 1 .ar .ar [] [] rfl rfl;rw[M]at s;have n:a_ [] S.length (gC S j (r.go 1) (.M [.I V 0,.ar,.ar] [] O) (xv 1)) 3 (.P S.length 0) (.A [.I V 1,.ar,.ar])=J ([],gC S j (r.go 1) (xv 1) (xv 1)):=A [] (r.go 1) [.I V 1,.ar,.ar] [] rfl rfl;have p:bk (gC S j (r.go 1) (.M [.I V 0,.ar,.ar] [] O) (xv 1)) (.A 3) (.P (S.length+1) 0)=J (.A [.I V 1,.ar,.ar]):=la (r.go 1) _ [.I V 1,.ar,.ar] [] rfl;have c:bk (gC S j (r.go 1) (xv 1) (xv 1)) (.A 3) (.P S.length 0)=J (.A [.I V 1,.ar,.ar]):=lz (r.go 1) [.I V 1,.ar,.ar] (xv 1) rfl rfl;have m:cd 241 [] [.A [.I V 1,.ar,.ar]] S (gC S j (r.go 1) (xv 1) (xv 1))=J (.A v.aq,S.set j (eY j (r.go 1))):=B (r.go 1) [] [.I V 1,.ar,.ar] (xv 1) v s;rw[k]at y E a;rw[L];simp at m;simp[d0,y,E,fk,C,a,T,l0,p,n,c,m]
  ·have⟨X,h2⟩:=R.S9 (.inr (.inl k))
   have M:bM.mk 2 [] []=v:=bM.qd k X h2;have L:v.bytes=[dt v.ae.toNat]:=by simp_all[bM.fa]
   have s:=uJ 2 .ar .ar [] [] rfl rfl;rw[M]at s;have n:a_ [] S.length (gC S j (r.go 1) (.M [.I V 0,.ar,.ar] [] O) (xv 2)) 3 (.P S.length 0) (.A [.I V 2,.ar,.ar])=J ([],gC S j (r.go 1) (xv 2) (xv 2)):=A [] (r.go 1) [.I V 2,.ar,.ar] [] rfl rfl;have p:bk (gC S j (r.go 1) (.M [.I V 0,.ar,.ar] [] O) (xv 2)) (.A 3) (.P (S.length+1) 0)=J (.A [.I V 2,.ar,.ar]):=la (r.go 1) _ [.I V 2,.ar,.ar] [] rfl;have c:bk (gC S j (r.go 1) (xv 2) (xv 2)) (.A 3) (.P S.length 0)=J (.A [.I V 2,.ar,.ar]):=lz (r.go 1) [.I V 2,.ar,.ar] (xv 2) rfl rfl;have m:cd 241 [] [.A [.I V 2,.ar,.ar]] S (gC S j (r.go 1) (xv 2) (xv 2))=J (.A v.aq,S.set j (eY j (r.go 1))):=B (r.go 1) [] [.I V 2,.ar,.ar] (xv 2) v s;rw[k]at y E a;rw[L];simp at m;simp[d0,y,E,fk,C,a,T,l0,p,n,c,m]
  ·have⟨X,h2⟩:=R.S9 (.inr (.inr k))
   have M:bM.mk 3 [] []=v:=bM.qd k X h2;have L:v.bytes=[dt v.ae.toNat]:=by simp_all[bM.fa]
   have s:=uJ 3 .ar .ar [] [] rfl rfl;rw[M]at s;have n:a_ [] S.length (gC S j (r.go 1) (.M [.I V 0,.ar,.ar] [] O) (xv 3)) 3 (.P S.length 0) (.A [.I V 3,.ar,.ar])=J ([],gC S j (r.go 1) (xv 3) (xv 3)):=A [] (r.go 1) [.I V 3,.ar,.ar] [] rfl rfl;have p:bk (gC S j (r.go 1) (.M [.I V 0,.ar,.ar] [] O) (xv 3)) (.A 3) (.P (S.length+1) 0)=J (.A [.I V 3,.ar,.ar]):=la (r.go 1) _ [.I V 3,.ar,.ar] [] rfl;have c:bk (gC S j (r.go 1) (xv 3) (xv 3)) (.A 3) (.P S.length 0)=J (.A [.I V 3,.ar,.ar]):=lz (r.go 1) [.I V 3,.ar,.ar] (xv 3) rfl rfl;have m:cd 241 [] [.A [.I V 3,.ar,.ar]] S (gC S j (r.go 1) (xv 3) (xv 3))=J (.A v.aq,S.set j (eY j (r.go 1))):=B (r.go 1) [] [.I V 3,.ar,.ar] (xv 3) v s;rw[k]at y E a;rw[L];simp at m;simp[d0,y,E,fk,C,a,T,l0,p,n,c,m]
  ·have h4:=R.k4 k
   have M:bM.mk 4 v.ax []=v:=bM.qd k rfl h4.2.2.2.2;have L:v.bytes=[dt v.ae.toNat]++(cB v.ax.length++v.ax.flatMap aR):=by simp_all
   have wl1:1<=v.ax.length:=by grind
   have q:pC (r.go 1) (cB v.ax.length++(v.ax.flatMap aR++u)):=by simp_all
   have I:=Kg (sg (r.go 1) (xv 4)) 1 wl1 h4.2.1 q;rw[ss]at I;have U:=q.go;have lp:=F2 (S:=S) (j:=j) (.M [.I V 0,.ar,.ar] [] O) v.ax h4.2.1 h4.2.2.2.1 h4.2.2.1 v.ax.length 0 r u [] D hS _ U;have R3:=U.go;have Q:T9 (S.length+1) v.ax=.M [.I V 4,bS (S.length+1) 0 1 (pE v.ax),.ar] [J v.ax.length] O:=by unfold T9;simp_all
   have t:[AV.I V 4,bS (S.length+1) 0 1 (pE v.ax),.ar].map aH=[.I V 4,gO 1 (pE v.ax),.ar]:=by simp only[EP,NM,p_];rfl
   have q1:=nL (sz:=1) (xg v.ax);have N:bQ ([AV.I V 4,bS (S.length+1) 0 1 (pE v.ax),.ar].map aH)=Y:=by rw[t];simp[bQ,aO,q1.2]
   have P:([AV.I V 4,bS (S.length+1) 0 1 (pE v.ax),.ar].map aH).map aH=[AV.I V 4,bS (S.length+1) 0 1 (pE v.ax),.ar].map aH:=by simp_all
   have s:=uJ 4 (gO 1 (pE v.ax)) .ar v.ax [] (En _) rfl;rw[M]at s;have m:=B (((r.go 1).go (cB v.ax.length).length).go (v.ax.flatMap aR).length) [] [AV.I V 4,bS (S.length+1) 0 1 (pE v.ax),.ar] (T9 (S.length+1) v.ax) v (by simp_all);have g:=er (T9 (S.length+1) v.ax) R3;have n:=A [] (((r.go 1).go (cB v.ax.length).length).go (v.ax.flatMap aR).length) _ [J v.ax.length] rfl N;have p:=la (((r.go 1).go (cB v.ax.length).length).go (v.ax.flatMap aR).length) (.M [.I V 0,.ar,.ar] [] O) [.I V 4,bS (S.length+1) 0 1 (pE v.ax),.ar] [J v.ax.length] rfl;have c:=lz (((r.go 1).go (cB v.ax.length).length).go (v.ax.flatMap aR).length) _ (T9 (S.length+1) v.ax) rfl P;rw[<-Q]at p n;simp only[t]at n p c m;have v00:T9 (S.length+1) []=xv 4:=rfl;rw[k]at y E a;rw[L];simp[v00, -List.length_flatMap]at I lp g n p c m;simp[d0,y,E,fk,C,a,T,l0,I, -List.length_flatMap];rw[ak lD];simp[lp,g,T,p,n,c,m, -List.length_flatMap]
   grind
  ·have h5:=R.k5 k
   have M:bM.mk 5 v.ax v.an=v:=bM.qd k rfl rfl;have L:v.bytes=[dt v.ae.toNat]++(cB v.ax.length++bM.dF v.ax v.an):=by simp_all
   have q:pC (r.go 1) (cB v.ax.length++(bM.dF v.ax v.an++u)):=by simp_all
   have I:=Kg (sg (r.go 1) (xv 5)) 0 D h5.2.1 q;rw[ss]at I;have U:=q.go;have⟨f,lp⟩:=F3 (S:=S) (j:=j) (d:=d) (.M [.I V 0,.ar,.ar] [] O) v h5.2.1 h5.2.2 h5.1 D (λx hx S r u X h2=>ih x (hv.all x hx) (R.all x hx) D S j r u X h2) v.ax.length 0 r u [] D hS _ U;have R3:=U.go;have Q:WJ (S.length+1) v.ax v.an=.M [.I V 5,bS (S.length+1) 0 1 (pE v.ax),bS (S.length+1) 1 3 (yV v.an)] (gb v.ax.length v.an.length) O:=rfl;have t:[AV.I V 5,bS (S.length+1) 0 1 (pE v.ax),bS (S.length+1) 1 3 (yV v.an)].map aH=[.I V 5,gO 1 (pE v.ax),gO 3 (yV v.an)]:=by simp_all[p_]
   have q1:=nL (sz:=1) (xg v.ax);have q2:=nL (sz:=3) (Br v.an);have N:bQ ([AV.I V 5,bS (S.length+1) 0 1 (pE v.ax),bS (S.length+1) 1 3 (yV v.an)].map aH)=Y:=by simp_all[bQ]
   have P:([AV.I V 5,bS (S.length+1) 0 1 (pE v.ax),bS (S.length+1) 1 3 (yV v.an)].map aH).map aH=[AV.I V 5,bS (S.length+1) 0 1 (pE v.ax),bS (S.length+1) 1 3 (yV v.an)].map aH:=by simp_all
   have s:=uJ 5 (gO 1 (pE v.ax)) (gO 3 (yV v.an)) v.ax v.an (En _) (Kf _);rw[M]at s;have m:=B (((r.go 1).go (cB v.ax.length).length).go (bM.dF v.ax v.an).length) f [AV.I V 5,bS (S.length+1) 0 1 (pE v.ax),bS (S.length+1) 1 3 (yV v.an)] (WJ (S.length+1) v.ax v.an) v (by simp_all);have g:=er (WJ (S.length+1) v.ax v.an) R3;have n:=A f (((r.go 1).go (cB v.ax.length).length).go (bM.dF v.ax v.an).length) _ (gb v.ax.length v.an.length) rfl N;have p:=la (((r.go 1).go (cB v.ax.length).length).go (bM.dF v.ax v.an).length) (.M [.I V 0,.ar,.ar] [] O) [.I V 5,bS (S.length+1) 0 1 (pE v.ax),bS (S.length+1) 1 3 (yV v.an)] (gb v.ax.length v.an.length) rfl;have c:=lz (((r.go 1).go (cB v.ax.length).length).go (bM.dF v.ax v.an).length) _ (WJ (S.length+1) v.ax v.an) rfl P;rw[<-Q]at p n;simp only[t]at n p c m;have v00:WJ (S.length+1) [] []=xv 5:=rfl;rw[k]at y E a;rw[L];simp[v00]at I lp g n p c m;simp[d0,y,E,fk,C,a,T,l0,I];rw[ak lE];simp[lp,g,T,p,n,c,m]
   grind
  ·have⟨hw0,hp1⟩:=R.k6 k
   have⟨x,hx⟩:=zS.1 hp1;have M:bM.mk 6 [] [x]=v:=bM.qd k hw0 hx;have L:v.bytes=[dt v.ae.toNat]++x.bytes:=by simp_all[bM.fa]
   have q:pC (r.go 1) (x.bytes++u):=by simp_all
   have I:=ih x (hv.all x (by grind)) (R.all x (by grind)) D _ j (r.go 1) u (sg (r.go 1) (xv 6)) q;rw[ss]at I;have U:=q.go;have hm:(gC S j ((r.go 1).go x.bytes.length) (.M [.I V 0,.ar,.ar] [] O) (xv 6))[S.length+1]? =J (.M [.I V 6,.ar,bS (S.length+1) 0 3 []] [] O):=mB ..;have⟨v3,t3,S3,t4,p1,p2⟩:=adg (sz:=3) (es:=[]) (x:=x.aq) (o:=2) [] 0 hm (λ_=>rfl) (λh=>absurd rfl h) ck ck (Br [x]);rw[nG]at p2;have ra0:bS (S.length+1) 0 3 []=.ar:=rfl;rw[ra0]at p1;have Q:eR.M (aV [.I V 6,.ar,.ar] 2 [bS (S.length+1) 0 3 ([]++[x.aq])]) ([]++[J 1]) O=.M [.I V 6,.ar,bS (S.length+1) 0 3 (yV [x])] [J 1] O:=rfl;have hp2:∀nb,a_ t3 nb S3 1 (.P (S.length+1) 2) v3=J (t4,gC S j ((r.go 1).go x.bytes.length) (.M [.I V 0,.ar,.ar] [] O) (.M [.I V 6,.ar,bS (S.length+1) 0 3 (yV [x])] [J 1] O)):=λnb=>by simp_all
   have t:[AV.I V 6,.ar,bS (S.length+1) 0 3 (yV [x])].map aH=[.I V 6,.ar,gO 3 (yV [x])]:=by rfl
   have q2:=nL (sz:=3) (Br [x]);have N:bQ ([AV.I V 6,.ar,bS (S.length+1) 0 3 (yV [x])].map aH)=Y:=by rw[t];simp[bQ,aO,q2.2]
   have P:([AV.I V 6,.ar,bS (S.length+1) 0 3 (yV [x])].map aH).map aH=[AV.I V 6,.ar,bS (S.length+1) 0 3 (yV [x])].map aH:=by rfl
   have s:=uJ 6 .ar (gO 3 (yV [x])) [] [x] rfl (Kf _);rw[M]at s;have m:=B ((r.go 1).go x.bytes.length) t4 [AV.I V 6,.ar,bS (S.length+1) 0 3 (yV [x])] (.M [.I V 6,.ar,bS (S.length+1) 0 3 (yV [x])] [J 1] O) v (by trivial);have g:=er (.M [.I V 6,.ar,bS (S.length+1) 0 3 (yV [x])] [J 1] O) U;have n:=A t4 ((r.go 1).go x.bytes.length) _ [J 1] rfl N;have p:=la ((r.go 1).go x.bytes.length) (.M [.I V 0,.ar,.ar] [] O) [.I V 6,.ar,bS (S.length+1) 0 3 (yV [x])] [J 1] rfl;have c:=lz ((r.go 1).go x.bytes.length) _ (.M [.I V 6,.ar,bS (S.length+1) 0 3 (yV [x])] [J 1] O) rfl P;simp only[t]at n p c m;have ld2:∀e,bk (gC S j e (.M [.I V 0,.ar,.ar] [] O) (xv 6)) .C (.P (S.length+1) 2)=J .ar:=λe=>kz ..;have bo:dq 3 [[.I V 0,.ar,.ar]] [(0,.A x.aq)]=J [x.aq]:=by have:=(bM.dB x).ml;simp[dq,aH,AV.cells,fL]
   have bz:dq 3 [[.I V 0,.ar,.ar]] [(0,.A [.I V 0,.ar,.ar])]=J [[.I V 0,.ar,.ar]]:=rfl;rw[k]at y E a;rw[L];generalize bS (S.length+1) 0 3 (yV [x])=row at*;simp at I g n p c m p1 hp2;simp[d0,hd1,y,E,fk,C,a,T,l0,ld2,I,gM,bo,bz,p1,hp2,g,p,n,c,m]
   grind
def Kh{S:G}{j:Nat}{r:Rd}{u:K}(v:bM)(i:v.Wf)(h:v.ba 5=Y)(d:S[j]? =J (eY j r))(f:pC r (v.bytes++u)):
 DF F W 220 [.P j 0] S=J (.A v.aq,S.set j (eY j (r.go v.bytes.length))):=by
 have e:=Tv 5 v i h D (S++[.M [.I V 0,.ar,.ar] [] O]) j r u (dc _ d) f;rw[eX _ ((jF.1 d).1)]at e;have c:(S.set j (eY j (r.go v.bytes.length))).length=S.length:=ck;have m:=u7 c (bM.dB v).aO [.M [.I V 0,.ar,.ar] [] O] 0 [] S.length 3;have l:bk (S.set j (eY j (r.go v.bytes.length))++[.M v.aq [] O]) (.A 3) (.P S.length 0)=J (.A v.aq):=by rw[YG c];simp
 have k:∀b a,(S.set j b++a).take S.length=S.set j b:=λb a=>by simp
 have g:aV [.I V 0,.ar,.ar] 0 v.aq=v.aq:=aY ck;rw[fI ahq];simp_all
structure bF.At(d:Nat)(l:bF):Prop where
 k1:1<=l.ae
 Y6:l.ae<=10
 a:eN l.a=Y
 b1:rn l.ae=Y->eN l.b=Y/\l.b≠l.a
 b0:rn l.ae=O->l.b=[]
 t1:qb l.ae=Y->oi l.base l.type=Y
 t0:qb l.ae=O->l.type=.mk 0 [] []/\l.base=mD
 y1:sa l.ae=Y->l.type.ae<=4/\ib l.back=Y/\l.aT.length<=8/\l.aT.all (rD l.type)=Y
 y0:sa l.ae=O->l.back=mD/\l.aT=[]
 i1:tn l.ae=Y->l.bT.length=1
 i0:tn l.ae=O->l.bT=[]
 all:∀x∈l.bT,x.ba d=Y
def bF.fP{d:Nat}{l:bF}(h:l.ba (d+1)=Y):l.At d:=by
 rw[bF.ba,j5,qw]at h;have⟨a,c⟩:=h;unfold bF.jG at a;simp at a;obtain⟨⟨⟨⟨⟨⟨e,f⟩,i⟩,k⟩,o⟩,n⟩,m⟩:=a;have p:rn l.ae=Y↔(l.ae=1\/l.ae=4\/l.ae=5):=by simp[rn]
 have s:qb l.ae=Y↔(l.ae=2\/l.ae=3\/l.ae=8):=by simp[qb]
 have r:sa l.ae=Y↔l.ae=8:=by simp[sa]
 have q:tn l.ae=Y↔(l.ae=9\/l.ae=10):=by simp[tn]
 have j:∀{b:Bool},b=O->¬b=Y:=λh g=>by simp_all
 refine⟨e,f,i,λh=>?_,λh=>?_,λh=>?_,λh=>?_,λh=>?_,λh=>?_,λh=>?_,λh=>?_,c⟩;all_goals grind [Fa,yb]
def Rt{k:Int}(b:1<=k)(c:k<=10):(rn k=Y/\qb k=O/\sa k=O)\/(rn k=O/\qb k=Y/\sa k=O)\/(rn k=O/\qb k=O/\sa k=O)\/(rn k=O/\qb k=Y/\sa k=Y):=by have a:k=1\/k=2\/k=3\/k=4\/k=5\/k=6\/k=7\/k=8\/k=9\/k=10:=D;rcases a with k|k|k|k|k|k|k|k|k|k<;>subst k<;>decide
theorem bF.vh(l:bF):l.bytes=dt l.ae.toNat::(aR l.a++((if rn l.ae=Y then aR l.b else[])++((if qb l.ae=Y then l.type.bytes++l.base.bytes else[])++((if sa l.ae=Y then l.back.bytes++(cB l.aT.length++l.aT.flatMap jZ)else[])++bF.fa l.bT)))):=by simp_all[rn,qb,sa,bF.lr]
def bF.jM(l:bF):l.bytes≠[]:=by rw[bF.vh];simp
structure bF.aa7(l:bF):Prop where
 t:qb l.ae=Y->l.type.bytes.length<=4096/\l.base.bytes.length<=4096
inductive bF.wF:bF->Prop
 |mk (l:bF) (one:l.aa7) (all:∀x∈l.bT,bF.wF x):bF.wF l
def bF.wF.one{l:bF}(h:l.wF):l.aa7:=by cases h;assumption
def bF.wF.all{l:bF}(h:l.wF):∀x∈l.bT,bF.wF x:=by cases h;assumption
def bF.HQ{d:Nat}{l:bF}(j:l.Wf)(R:l.At d)(h:sa l.ae=Y):∀p∈l.aT,p.x.I_/\p.y.I_:=by intro p i;have⟨a,b,c,e⟩:=R.y1 h;have:=qw.1 e p i;unfold rD at this;simp at this;have w:=j.one.pair p i;have k:=uF w.1 this.1;have m:=Rc w.2 this.2 a;have f:=this.1;unfold ib at f;simp at f;have g:=this.2;unfold oi at g;simp at g;exact⟨⟨w.1,f.1,by omega⟩,⟨w.2,g.1.1,by omega⟩⟩
def bF.XD:∀(d:Nat)(l:bF),l.Wf->l.ba d=Y->l.wF->l.bytes.length<=20000*d:=by
 intro d;induction d with
 |zero=>nofun
 |succ d m=>
  intro l f h g;have R:=bF.fP h;have n:=iz (fR R.a) D;have o:(if rn l.ae=Y then aR l.b else[]).length<=22:=by
   split;·rename_i k;exact iz (fR (R.b1 k).1) D
   ·simp
  have r:(if qb l.ae=Y then l.type.bytes++l.base.bytes else[]).length<=8192:=by
   split;·rename_i k;have:=g.one.t k;grind
   ·simp
  have q:(if sa l.ae=Y then l.back.bytes++(cB l.aT.length++l.aT.flatMap jZ)else[]).length<=2000:=by
   split
   ·rename_i k
    have⟨a,b,c,e⟩:=R.y1 k;have s:=uF f.one.back b;have t:=zZ l.type a l.aT f.one.pair e
    grind [fg]
   ·simp
  have p:(bF.fa l.bT).length<=20000*d:=by
   cases i:tn l.ae;·rw[R.i0 i];simp[bF.fa]
   ·have⟨x,j⟩:=zS.1 (R.i1 i)
    have:=m x (f.all x (by grind)) (R.all x (by grind)) (g.all x (by grind));rw[j];simp[bF.fa];omega
  grind [bF.vh]
def nq{v:a8}{s:bM}(h:oi v s=Y):v.ba 5=Y/\s.ba 5=Y:=by grind [oi]
def ajw{S:G}(j:Nat)(b c:eR)(a:List eR)(cs:bN)(bt:ch)(q:Bool)(d:Sh)(off:Nat):bk (S.set j b++(.M cs bt q::c::a)) d (.P S.length off)=f_ d cs off:=by grind [bV]
def ajx{S:G}(j:Nat)(b c:eR)(a:List eR)(cs:bN)(bt:ch)(q:Bool)(d:Sh)(off:Nat):bk (S.set j b++(c::.M cs bt q::a)) d (.P (S.length+1) off)=f_ d cs off:=by grind [bV]
def Mu:∀(d:Nat)(l:bF),l.Wf->l.ba d=Y->l.wF->∀(S:G)(j:Nat)(c:K),S[j]? =J (fY j c)->c.length+l.bytes.length+1000<=1073741824->
 DF F W 85 [.P j 0,.A l.aq] S=J (.bP [],S.set j (fY j (c++l.bytes))):=by
 intro d;induction d with
 |zero=>nofun
 |succ d ih=>
  intro l s h hn S j c hS f;have R:=bF.fP h;have k:=(jF.1 hS).1;have I:=sX l.ae (S++[.M l.aq [] O]);have u5:=Rt R.k1 R.Y6;have lb:=l.vh;have wk:gh .u8 l.ae=(((dt l.ae.toNat).toNat:Nat):Int):=by have:=R.k1;have:=R.Y6;show l.ae %256=_;rw[zT];omega
  have la:=fR R.a;have ea:=iz la D;have hin:l.bT.length<=1:=by
   cases I:tn l.ae;·rw[R.i0 I];simp
   ·rw[R.i1 I];omega
  have hI:=IA l hin j S.length (λx hx S c h1 h2=>ih x (s.all x hx) (R.all x hx) (hn.all x hx) S j c h1 h2) l.bT.length 0;simp only[qf]at hI;have hPk:=R.y1;have hP:=λh=>Iz l (hPk h).2.2.1 (bF.HQ s R h) j S.length S.length D l.aT.length 0;simp only[qf]at hP;have hT1:=R.t1;have hT2:=hn.one.t;have hB1:=R.b1;have hpw:=s.one.pair;have sp:∀b t y i,aV [.B O,.B O,.B O,.B O] 0 (pD b t y i)=pD b t y i:=λ_ _ _ _=>rfl;have tr:∀b t y i o,aK [] (.bP [.A (pD b t y i),.B o])=(.bP [.A (pD b t y i),.B o],[]):=λ_ _ _ _ _=>rfl;have z:∀b a,(S.set j b++a).take S.length=S.set j b:=λb a=>by simp
  rw[lb]at f⊢;generalize hub:rn l.ae=Q,hut:qb l.ae=T,huy:sa l.ae=U,hui:tn l.ae=C at*;have hS2:(S++[.M l.aq [] O,.M (pD Q T U C) [] O])[j]? =J (fY j c):=dc _ hS;have c1:=sC hS2 (dt l.ae.toNat) D;rw[eX _ k]at c1;have r:=kh (lX hS (c++[dt l.ae.toNat]) [.M l.aq [] O,.M (pD Q T U C) [] O]) l.a (by simp at f⊢;omega);rw[ft k]at r;have L:=λo N g=>ajw (S:=S) j (fY j o) (.M (pD Q T U C) [] O) [] l.aq [] O N g;have ldG:=λo a N g=>ajw (S:=S) j (fY j o) (.M (pD Q T U C) [] O) a l.aq [] O N g;have lu:=λo N g=>ajx (S:=S) j (fY j o) (.M l.aq [] O) [] (pD Q T U C) [] O N g;have luG:=λo a N g=>ajx (S:=S) j (fY j o) (.M l.aq [] O) a (pD Q T U C) [] O N g;have l1:=λo=>L o .C 1;have l2:=λo=>L o .C 2;have l3:=λo=>L o (.A 3) 3;have l6:=λo=>L o (.A 6) 6;have l12:=λo=>L o (.A 6) 12;have l18:=λo=>L o .C 18;have w:=λo=>L o .C 19;have B:=λo a=>ldG o a .C 19;have u0:=λo=>lu o .C 0;have u1:=λo=>lu o .C 1;have u2:=λo=>lu o .C 2;simp at l1 l2 l3 l6 l12 l18 w B u0 u1 u2;have p:=λo=>lX hS o [.M l.aq [] O,.M (pD Q T U C) [] O];rw[jE amz];rcases u5 with⟨rfl,rfl,rfl⟩|⟨rfl,rfl,rfl⟩|⟨rfl,rfl,rfl⟩|⟨rfl,rfl,rfl⟩
  ·have lbb:=fR (hB1 rfl).1
   have ebb:=iz lbb D;simp at f⊢;have m:=kh (p (c++[dt l.ae.toNat]++aR l.a)) l.b (by simp at f⊢;omega);rw[ft k]at m;have⟨q,a,e⟩:=hI _ _ [] D (p (c++[dt l.ae.toNat]++aR l.a++aR l.b)) (by simp at f⊢;omega);rw[ft k]at e;generalize dt l.ae.toNat=u at*;simp at r m e;simp[I,tr,sp,bJ,wk,c1,r,m,l1,l2,w,u0,u1,u2,dH];rw[ak iM];simp[e,z,cd,aJ,bY,aC]
  ·have ht:=hT1 rfl
   have hr:=nq ht;have hs:=hT2 rfl;simp only[vD,if_false,if_true,rB]at f⊢;have ce:=tL l.type s.one.type;have cee:u9 (l.type.ba 5) l.type.bytes=.bP [.sl .fN 1 (fA l.type.bytes),.aD]:=by unfold u9;rw[if_pos hr.2,uQ,pV l.type.jM]
   rw[cee]at ce;have m:=jC (p (c++[dt l.ae.toNat]++aR l.a)) l.type.bytes (by simp at f⊢;omega);rw[ft k]at m;have E:=sG (p (c++[dt l.ae.toNat]++aR l.a++l.type.bytes)) [l.base] ck (by intro v A;simp at A;subst A;exact⟨s.one.base,hr.1,hs.2⟩) (by simp at f⊢;omega);rw[ft k]at E;have⟨q,a,e⟩:=hI _ _ [J l.type.bytes.length] D (p (c++[dt l.ae.toNat]++aR l.a++l.type.bytes++l.base.bytes)) (by simp at f⊢;omega);rw[ft k]at e;have X:=HT l.base;generalize dt l.ae.toNat=u at*;simp at r m E e X;simp[I,tr,sp,bJ,wk,c1,r,l1,l3,l6,w,u0,u1,u2,dH,ce,r7,DB,j9,DD,xr,m,X,XC,Ms,Mt,EK,E];rw[ak iM];simp[e,z,cd,aJ,bY,aC]
  ·simp only[vD,if_false,rB]at f⊢
   have⟨q,a,e⟩:=hI _ _ [] D (p (c++[dt l.ae.toNat]++aR l.a)) (by simp at f⊢;omega);rw[ft k]at e;generalize dt l.ae.toNat=u at*;simp at r e;simp[I,tr,sp,bJ,wk,c1,r,l1,l2,w,u0,u1,u2,dH];rw[ak iM];simp[e,z,cd,aJ,bY,aC]
  ·have ht:=hT1 rfl
   have hr:=nq ht;have hs:=hT2 rfl;have⟨q1,q2,q3,q4⟩:=hPk rfl;have s1:=uF s.one.back q2;have s2:=zZ l.type q1 l.aT hpw q4;have s3:=fg (n:=l.aT.length) D;have M:=q2;unfold ib at M;simp only[j5]at M;simp only[vD,if_false,if_true,rB]at f⊢;have ce:=tL l.type s.one.type;rw[(by unfold u9;rw[if_pos hr.2,uQ,pV l.type.jM]:u9 (l.type.ba 5) l.type.bytes=.bP [.sl .fN 1 (fA l.type.bytes),.aD])]at ce;have m:=jC (p (c++[dt l.ae.toNat]++aR l.a)) l.type.bytes (by simp at f⊢;omega);rw[ft k]at m;have E:=sG (p (c++[dt l.ae.toNat]++aR l.a++l.type.bytes)) [l.base] ck (by intro v A;simp at A;subst A;exact⟨s.one.base,hr.1,hs.2⟩) (by simp at f⊢;omega);rw[ft k]at E;have c5:=sG (p (c++[dt l.ae.toNat]++aR l.a++l.type.bytes++l.base.bytes)) [l.back] ck (by intro v A;simp at A;subst A;exact⟨s.one.back,M.1,by omega⟩) (by simp at f⊢;omega);rw[ft k]at c5;have c6:=eK (p (c++[dt l.ae.toNat]++aR l.a++l.type.bytes++l.base.bytes++l.back.bytes)) l.aT.length D (by simp at f⊢;omega);rw[ft k]at c6;have⟨P,G0,e0⟩:=hP rfl _ _ [J l.type.bytes.length] D (p (c++[dt l.ae.toNat]++aR l.a++l.type.bytes++l.base.bytes++l.back.bytes++cB l.aT.length)) (by grind [jf,jI]);rw[ft k]at e0;have⟨q,a,e⟩:=hI _ _ P D (lX hS (c++[dt l.ae.toNat]++aR l.a++l.type.bytes++l.base.bytes++l.back.bytes++cB l.aT.length++l.aT.flatMap jZ) (.M l.aq [] O::.M (pD O Y Y C) [] O::G0)) (by grind [jf,jI]);rw[ft k]at e;have wl:gh bm (l.aT.length:Int)=(l.aT.length:Int):=by show(l.aT.length:Int)%2^64=_;omega
   have X:=HT l.base;have b2:=HT l.back;generalize dt l.ae.toNat=u at*;simp at r m E c5 c6 e0 e X b2;simp[I,tr,sp,bJ,wk,wl,c1,r,l1,l3,l6,l12,l18,u0,u1,u2,dH,ce,r7,DB,j9,DD,xr,m,X,b2,XC,Ms,Mt,EK,E,c5,c6];rw[ak mr];simp[e0,B];rw[ak iM];simp[e,z,cd,aJ,bY,aC]
def Sb{b:Bool}{s:K}(h:b=Y)(a:s≠[]):u9 b s=if 4096<s.length then .bP [.ar,.dA 59 (.I V 3)]else .bP [.sl .fN 1 (fA s),.aD]:=by unfold u9;rw[if_pos h,pV a];rfl
def bF.FD(l:bF):Bool:=aN (4096<l.type.bytes.length)||aN (4096<l.base.bytes.length)
def FE(l:bF)(h:l.DI)(i:oi l.base l.type=Y)(S:G):DF F W 84 [.A l.aq] S=J (.B l.FD,S):=by
 have r:=nq i;have c:=tL l.type h.type (S++[.M l.aq [] O]);have a:=rj l.base h.base (S++[.M l.aq [] O]);rw[Sb r.2 l.type.jM]at c;rw[Sb r.1 l.base.jM]at a;have e:b6 .neq (.dA cC) Y (.dA 59 (.I V 3)) .aD=J (.B Y):=rfl;have g:b6 .neq (.dA cC) Y .aD .aD=J (.B O):=rfl;have f:∀t,aK t (.bP [.ar,.dA 59 (.I V 3)])=(.bP [.ar,.dA 59 (.I V 3)],t):=λ_=>rfl;rw[fI amy];unfold bF.FD;by_cases d:4096<l.type.bytes.length
 ·rw[if_pos d]at c
  by_cases b:4096<l.base.bytes.length
  ·rw[if_pos b]at a
   simp[c,a,d,b,f,e,bJ]
  ·rw[if_neg b]at a
   simp[c,a,d,b,f,DE,e,bJ]
 ·rw[if_neg d]at c
  by_cases b:4096<l.base.bytes.length
  ·rw[if_pos b]at a
   simp[c,a,d,b,f,DE,e,g,bJ]
  ·rw[if_neg b]at a
   simp[c,a,d,b,DE,g,bJ]
def bF.ZQ:Nat->bF->Bool
 |0,_=>Y
 |d+1,l=> !(qb l.ae&&l.FD)&&l.bT.all (bF.ZQ d)
def bF.ZR:∀(d:Nat)(l:bF),l.ba d=Y->l.ZQ d=Y->l.wF:=by
 intro d;induction d with
 |zero=>nofun
 |succ d c=>
  intro l h a;rw[bF.ZQ,j5,qw]at a;refine .mk l ⟨λe=>?_⟩ λx b=>c x ((bF.fP h).all x b) (a.2 x b)
  grind [bF.FD]
def bF.XE:∀(d:Nat)(l:bF),l.ba d=Y->l.ZQ d=O->4096<l.bytes.length:=by
 intro d;induction d with
 |zero=>nofun
 |succ d g=>
  intro l h b;have R:=bF.fP h;rw[bF.ZQ]at b;simp[bF.vh];cases f:qb l.ae
  ·rw[f]at b
   simp at b;have⟨x,c,e⟩:=b;have:=g x (R.all x c) e;cases a:tn l.ae;·rw[R.i0 a]at c;cases c
   ·have⟨y,j⟩:=zS.1 (R.i1 a)
    grind [bF.fa]
  ·have i:=R.i0 (by grind [qb,tn])
   grind [bF.FD]
def Jo(m nb:Nat):∀(d:Nat)(x:bF),x.Wf->x.ba d=Y->∀(T:G)(i:Nat),T[i]? =J (.M x.aq [] O)->
 ∃l,(∃f,l=T++f)/\DC F W (.L tD) ⟨[(1,.P m 0),(4,.P i 0)],[],nb⟩ T=if x.ZQ d then J (.E 0,⟨[(1,.P m 0)],[],nb⟩,l)else J (.R,⟨[(2,.ar),(3,.dA 59 (.I V 3))],[],nb⟩,l):=by
 intro d;induction d with
 |zero=>nofun
 |succ d ih=>
  intro x U h T i P;have R:=bF.fP h;have q:=sX x.ae T;have C:∀b t y i,aV [.B O,.B O,.B O,.B O] 0 (pD b t y i)=pD b t y i:=λ_ _ _ _=>rfl;have E:∀b t y i o,aK [] (.bP [.A (pD b t y i),.B o])=(.bP [.A (pD b t y i),.B o],[]):=λ_ _ _ _ _=>rfl;have B:bk T .C (.P i 0)=J (.I V x.ae):=by rw[bV P];simp
  have L:∀b,bk (T++[b]) (.A 20) (.P i 0)=J (.A x.aq):=λb=>by rw[bV (dc [b] P)];simp
  have k:∀b,bk (T++[b]) .C (.P i 19)=J (qz x.bT):=λb=>by rw[bV (dc [b] P)];simp
  rw[bF.ZQ];have X:(qb x.ae&&x.FD)=O->∃l,(∃f,l=T++f)/\DC F W (.L tD) ⟨[(1,.P m 0),(4,.P i 0)],[],nb⟩ T=if x.bT.all (bF.ZQ d)then J (.E 0,⟨[(1,.P m 0)],[],nb⟩,l)else J (.R,⟨[(2,.ar),(3,.dA 59 (.I V 3))],[],nb⟩,l):=by
   intro u;have j:qb x.ae=Y->DF F W 84 [.A x.aq] (T++[.M (pD (rn x.ae) (qb x.ae) (sa x.ae) (tn x.ae)) [] O])=J (.B O,T++[.M (pD (rn x.ae) (qb x.ae) (sa x.ae) (tn x.ae)) [] O]):=by intro g;rw[g,MO]at u;have:=FE x U.one (R.t1 g) (T++[.M (pD (rn x.ae) Y (sa x.ae) (tn x.ae)) [] O]);simp_all
   have S:=R.i1;have Q:=R.i0;generalize hub:rn x.ae=M,p:qb x.ae=r,huy:sa x.ae=N,hui:tn x.ae=ui at*;cases ui
   ·have s:=Q rfl
    refine⟨T++[.M (pD M r N O) [] O],⟨_,rfl⟩, ?_⟩;rw[av,bf gr,s];rw[s]at k;cases r;·simp[q,E,C,bJ,B,k]
    ·have j:=j rfl
     simp[q,E,C,bJ,B,L,k,j]
   ·have⟨y,w⟩:=zS.1 (S rfl)
    have A:y∈x.bT:=by grind
    obtain⟨l,⟨f,hG⟩,e⟩:=ih y (U.all y A) (R.all y A) (T++[.M (pD M r N Y) [] O]++[.M y.aq [] O]) (T++[eR.M (pD M r N Y) [] O]).length ck;refine⟨l,⟨_,by rw[hG,oH,oH]⟩, ?_⟩;have I:=xU x.bT V 0;rw[w]at I;have v:∀z:bF,aV ad 0 z.aq=z.aq:=λz=>aY ck;have n:aV x.aq 0 y.aq=y.aq:=aY ck;rw[av,bf gr,w];rw[w]at k;have s2:∀(a b c:eR),(T++[a,b]).set (T.length+1) c=T++[a,c]:=λa b c=>by simp
    rw[(ck:(T++[eR.M (pD M r N Y) [] O]).length=T.length+1)]at e;simp at I e;cases r
    ·simp[q,E,C,bJ,B,L,k,v,n,w,I]
     rw[ak gr];simp[e]
    ·have j:=j rfl
     simp[q,E,C,bJ,B,L,k,v,n,w,I,j];rw[ak gr];simp[e]
  cases u:(qb x.ae&&x.FD);·simp_all
  ·have p:qb x.ae=Y:=by simp_all
   have j:=FE x U.one (R.t1 p) (T++[.M (pD (rn x.ae) Y (sa x.ae) (tn x.ae)) [] O]);rw[(by simp_all:x.FD=true)]at j;rw[p]at q;refine⟨T++[.M (pD (rn x.ae) Y (sa x.ae) (tn x.ae)) [] O],⟨_,rfl⟩, ?_⟩;rw[av,bf gr];simp[q,E,C,bJ,B,L,j]
def Jd(l:bF)(m:l.Wf)(S:G):DF F W 40 [.A l.aq] S=J (u9 (l.ba 5) l.bytes,S):=by
 have h:=Ly l m (S++[.M l.aq [] O]);have x:r6 1=.dA 59 (.I V 1):=rfl;have s:r6 3=.dA 59 (.I V 3):=rfl;rw[fI ama];unfold u9;cases f:l.ba 5
 ·rw[f]at h
  simp[h,x,bw,cd,aJ,bY,aC,aO,bD,aP,bI]
 rw[f]at h;have g:aV ad 0 l.aq=l.aq:=aY ck;obtain⟨T,⟨a,C⟩,e⟩:=Jo S.length S.length 5 l m f (S++[.M l.aq [] O,.M l.aq [] O]) (S.length+1) ck;have j:∀X,(T++X).take S.length=S:=λX=>by simp_all
 have r:T.take S.length=S:=by simp_all
 have E:T[S.length]? =J (.M l.aq [] O):=by grind
 cases n:l.ZQ 5
 ·rw[n]at e
  have c:=bF.XE 5 l f n;simp at e;simp[h,g,bw,c];rw[ak gr];simp[e,r,s,cd,aJ,bY,aC,aO,bD,aP,bI]
 ·rw[n]at e
  have i:=bF.ZR 5 l f n;have z:=bF.XD 5 l m f i;have k:eR.M [.ar] [] O=fY T.length []:=rfl;have y:(T++[fY T.length []])[T.length]? =J (fY T.length []):=ck;have o:=Mu 5 l m f i _ _ _ y (by grind);rw[(ck:(T++[fY T.length []]).set T.length (fY T.length ([]++l.bytes))=T++[fY T.length l.bytes])]at o;have q:(T++[fY T.length l.bytes])[T.length]? =J (fY T.length l.bytes):=ck;have p:=uw q D;have u:=Gr l.jM;have v:=pV l.jM;have B:=Gs l.bytes;have A:=ez l.bytes;have w:(if l.bytes=[]then AV.ar else AV.sl .fN 1 (fA l.bytes))=OT l.bytes:=rfl;rw[w]at p;have t:∀b,bk (T++[b]) (.A 20) (.P S.length 0)=J (.A l.aq):=λb=>by simp_all
  simp at e;by_cases c:4096<l.bytes.length
  ·have d:((4096:Int)<(l.bytes.length:Int))=True:=eq_true D
   simp[h,g,bw];rw[ak gr];simp[e,k,t,o,p,u,c,d,s,dH,gM,j,cd,aJ,bY,aC,aO,bD,aP,bI]
  ·have d:((4096:Int)<(l.bytes.length:Int))=False:=eq_false D
   simp[h,g,bw];rw[ak gr];simp[e,k,t,o,p,DA,c,d,v,dH,gM,j,cd,aJ,bY,aC,aO,bD,A,aP,bI]
section
def Ok{S:G}{j:Nat}{r:Rd}{s o u:K}(hS:S[j]? =J (eY j r))(d:eN s=Y)(a:s≠o)(h:pC r (aR s++u)):
 DF F W 218 [.P j 0,.S o] S=J (.S s,S.set j (eY j (r.go (aR s).length))):=by
 have e:=fR d;have c:=j7 s D (S.set j (eY j (r.go (aR s).length)));rw[d]at c;simp[jE aho,Dk hS D h,c,a,(λb=>ob ck:∀b,(S.set j b).take S.length=S.set j b),bw]
def Fq{S:G}{j:Nat}{r:Rd}{u:K}(v:a8)(o:v.Wf)(h:v.ba 5=Y)(hS:S[j]? =J (eY j r))(k:pC r (v.bytes++u))(g:db)(n:nk.j6 g=Z)(a:rV g=O)
 (l:∀T,DF F W g [.A v.aq] T=J (.B Y,T)):DF F W 221 [.P j 0,.fn g [] []] S=J (.A v.aq,S.set j (eY j (r.go v.bytes.length))):=by
 have i:=Dl v o h (dc [.M ai [] O] hS) k;rw[eX _ ((jF.1 hS).1)]at i;have c:(S.set j (eY j (r.go v.bytes.length))).length=S.length:=ck;have p:a_ [] S.length (S.set j (eY j (r.go v.bytes.length))++[.M ai [] O,.M ai [] O]) 6 (.P (S.length+1) 0) (.A v.aq)=J ([],gC S j (r.go v.bytes.length) (.M ai [] O) (.M v.aq [] O)):=by simp[pA c (a8.dB v).aO,(aY ck:aV ai 0 v.aq=v.aq),gC]
 have e:a_ [] S.length (gC S j (r.go v.bytes.length) (.M ai [] O) (.M v.aq [] O)) 6 (.P S.length 0) (.A v.aq)=J ([],gC S j (r.go v.bytes.length) (.M v.aq [] O) (.M v.aq [] O)):=by unfold gC;simp[u7 c (a8.dB v).aO]
 have f:∀d z b,(gC S j d z b).take S.length=S.set j (eY j d):=λd z b=>by grind [gC]
 rw[jE aaC];simp[i,p,wz (pg hS (r.go v.bytes.length) (.M ai [] O) (.M v.aq [] O)) k.go,(rfl:b6 .eql (.dA cC) Y .aD .aD=J (.B Y)),(by rw[kz];simp:bk (gC S j (r.go v.bytes.length) (.M ai [] false) (.M v.aq [] false)) (.A 6) (.P (S.length+1) 0)=some (.A v.aq)),n,a,l,bw,e,(by unfold gC;rw[YG c];simp:bk (gC S j (r.go v.bytes.length) (.M v.aq [] false) (.M v.aq [] false)) (.A 6) (.P S.length 0)=some (.A v.aq)),f]
def AS{S:G}{j m:Nat}{r:Rd}{u:K}(v:a8)(o:v.Wf)(h:v.ba 5=Y)(hS:S[j]? =J (eY j r))(l:pC r (v.bytes++u))(g:db)(n:nk.j6 g=Z)(a:rV g=O)
 (k:DF F W g [.A v.aq,.P m 0] (gC S j (r.go v.bytes.length) (.M ai [] O) (.M v.aq [] O))=J (.B Y,gC S j (r.go v.bytes.length) (.M ai [] O) (.M v.aq [] O))):
 DF F W 221 [.P j 0,.fn g [] [.P m 0]] S=J (.A v.aq,S.set j (eY j (r.go v.bytes.length))):=by
 have i:=Dl v o h (dc [.M ai [] O] hS) l;rw[eX _ ((jF.1 hS).1)]at i;have c:(S.set j (eY j (r.go v.bytes.length))).length=S.length:=ck;have p:a_ [] S.length (S.set j (eY j (r.go v.bytes.length))++[.M ai [] O,.M ai [] O]) 6 (.P (S.length+1) 0) (.A v.aq)=J ([],gC S j (r.go v.bytes.length) (.M ai [] O) (.M v.aq [] O)):=by simp[pA c (a8.dB v).aO,(aY ck:aV ai 0 v.aq=v.aq),gC]
 have e:a_ [] S.length (gC S j (r.go v.bytes.length) (.M ai [] O) (.M v.aq [] O)) 6 (.P S.length 0) (.A v.aq)=J ([],gC S j (r.go v.bytes.length) (.M v.aq [] O) (.M v.aq [] O)):=by unfold gC;simp[u7 c (a8.dB v).aO]
 have f:∀d z b,(gC S j d z b).take S.length=S.set j (eY j d):=λd z b=>by grind [gC]
 rw[jE aaC];simp at k;simp[i,p,wz (pg hS (r.go v.bytes.length) (.M ai [] O) (.M v.aq [] O)) l.go,(rfl:b6 .eql (.dA cC) Y .aD .aD=J (.B Y)),(by rw[kz];simp:bk (gC S j (r.go v.bytes.length) (.M ai [] false) (.M v.aq [] false)) (.A 6) (.P (S.length+1) 0)=some (.A v.aq)),n,a,k,bw,e,(by unfold gC;rw[YG c];simp:bk (gC S j (r.go v.bytes.length) (.M v.aq [] false) (.M v.aq [] false)) (.A 6) (.P S.length 0)=some (.A v.aq)),f]
def ji(k:Int)(a b:K)(ts xs ys:bN)(pr ir:H):bN:=[.I V k,.S a,.S b]++(ts++(xs++(ys++[pr,ir])))
theorem mc{k:Int}{a b:K}{c xs ys:bN}{pr ir:H}(d:c.length=3)(e:xs.length=6)(f:ys.length=6):(ji k a b c xs ys pr ir).length=20:=by simp[ji,d,e,f]
def aaZ{k:Int}{a b:K}{d xs ys:bN}{pr ir:H}(e:d.length=3)(f:d.map aH=d):f_ (.A 3) (ji k a b d xs ys pr ir) 3=J (.A d):=
 jQ (a:=[.I V k,.S a,.S b]) (b:=d) (c:=xs++(ys++[pr,ir])) rfl rfl e f
def aiZ{k:Int}{a b:K}{c xs ys:bN}{pr ir:H}(d:c.length=3)(e:xs.length=6)(f:ys.length=6):(ji k a b c xs ys pr ir)[18]? =J pr:=by simp_all[ji]
def oT{l a b c b':bN}{off:Nat}(f:l=a++(b++c))(d:a.length=off)(e:b'.length=b.length):aV l off b'=a++(b'++c):=by grind [aV]
def adh{k:Int}{a b:K}{e xs ys:bN}{pr d ir:H}(f:e.length=3)(g:xs.length=6)(h:ys.length=6):aV (ji k a b e xs ys pr ir) 18 [d]=ji k a b e xs ys d ir:=by exact(oT (l:=ji k a b e xs ys pr ir) (off:=18) (b':=[d]) (a:=[.I V k,.S a,.S b]++(e++(xs++ys))) (b:=[pr]) (c:=[ir]) (by simp[ji]) (by simp_all) rfl).trans (by simp[ji])
def adi{k:Int}{a b:K}{e xs ys:bN}{pr ir d:H}(f:e.length=3)(g:xs.length=6)(h:ys.length=6):aV (ji k a b e xs ys pr ir) 19 [d]=ji k a b e xs ys pr d:=by exact(oT (l:=ji k a b e xs ys pr ir) (off:=19) (b':=[d]) (a:=[.I V k,.S a,.S b]++(e++(xs++(ys++[pr])))) (b:=[ir]) (c:=[]) (by simp[ji]) (by simp_all) rfl).trans (by simp[ji])
def WK{k:Int}{a b:K}{e d xs ys:bN}{pr ir:H}(g:e.length=3)(f:d.length=3):aV (ji k a b e xs ys pr ir) 3 d=ji k a b d xs ys pr ir:=by exact(oT (l:=ji k a b e xs ys pr ir) (off:=3) (b':=d) (a:=[.I V k,.S a,.S b]) (b:=e) (c:=xs++(ys++[pr,ir])) rfl rfl D).trans rfl
def WL{k:Int}{a b:K}{e xs d ys:bN}{pr ir:H}(f:e.length=3)(h:xs.length=6)(g:d.length=6):aV (ji k a b e xs ys pr ir) 6 d=ji k a b e d ys pr ir:=by exact(oT (l:=ji k a b e xs ys pr ir) (off:=6) (b':=d) (a:=[.I V k,.S a,.S b]++e) (b:=xs) (c:=ys++[pr,ir]) rfl (by simp[f]) D).trans rfl
def adj{k:Int}{a b:K}{e xs ys d:bN}{pr ir:H}(g:e.length=3)(h:xs.length=6)(i:ys.length=6)(f:d.length=6):aV (ji k a b e xs ys pr ir) 12 d=ji k a b e xs d pr ir:=by exact(oT (l:=ji k a b e xs ys pr ir) (off:=12) (b':=d) (a:=[.I V k,.S a,.S b]++(e++xs)) (b:=ys) (c:=[pr,ir]) (by simp[ji]) (by grind) D).trans (by simp[ji])
def Dq(S:St)(j m:Nat)(r:Rd)(b:eR)(G:List eR):St:=(S.set j (eY j r)).set m b++G
section
variable{S:G}{j m:Nat}{r:Rd}(hS:S[j]? =J (eY j r))(hm:m<S.length)(XT:j≠m)
include hS XT in
theorem Gp(c:Rd)(b:eR)(a:List eR):(Dq S j m c b a)[j]? =J (eY j c):=by
 refine dc a ?_
 grind
include hS XT in
theorem L8(d c:Rd)(b:eR)(a:List eR):(Dq S j m d b a).set j (eY j c)=Dq S j m c b a:=by grind [Dq,List.set_comm,List.set_set]
include hm in
theorem WM(c:Rd)(b:eR)(a:List eR):(Dq S j m c b a)[m]? =J b:=dc a (E8 (by simp_all))
include hm in
theorem WN(d:Rd)(b c:eR)(a:List eR):(Dq S j m d b a).set m c=Dq S j m d c a:=by grind [Dq,List.set_set]
end
def Zi(S:G)(j m:Nat)(r:Rd)(b:eR)(a c:List eR):Dq S j m r b a++c=Dq S j m r b (a++c):=oH ..
def Es(l:List eB):jb:=l.map eB.aq
def RD(a:List eB)(x:eB):Es (a++[x])=Es a++[x.aq]:=by simp[Es]
@[simp]theorem RE(a:List eB):(Es a).length=a.length:=by simp[Es]
def Ki(l:List eB):dy (Es l)=Y:=jc.2 λx a=>by obtain⟨s,_,rfl⟩:=zO.1 a;exact mC.aO ck
def Tw(a:List eB):bO (gO 12 (Es a))=nD a:=r5 12 _
def L9(n:Nat):ch:=if n=0 then[]else[J n]
def wA{T:G}{m:Nat}{k:Int}{a b:K}{t:bM}{xs ys:bN}{pr ir:H}{bt:ch}{q:Bool}(hm:T[m]? =J (.M (ji k a b t.aq xs ys pr ir) bt q))(y:a8)(e:y.Wf)(d:t.Wf)(h:oi y t=Y):
 DF F W 219 [.A y.aq,.P m 0] T=J (.B Y,T):=by
 have c:=wq y t e d (T++[.M y.aq [] O]);rw[h]at c;have f:bk (T++[.M y.aq [] O]) (.A 3) (.P m 3)=J (.A t.aq):=by rw[bV (dc [.M y.aq [] O] hm)];exact aaZ ck (bM.dB t).ml
 simp[jE ahp,f,c]
def WO{S:G}{j m:Nat}{r:Rd}{u:K}(l:bF)(U:l.DI)(hq:l.type.ae<=4)(N:ib l.back=Y)(hp8:l.aT.length<=8)(hpr:l.aT.all (rD l.type)=Y){k:Int}{a b:K}{xs ys:bN}{ir:H}(hx:xs.length=6)(hy:ys.length=6)
 (hS:S[j]? =J (eY j r)) (hm:S[m]? =J (.M (ji k a b l.type.aq xs ys .ar ir) [] O)) (XT:j≠m) (hr:pC r (l.back.bytes++(cB l.aT.length++(l.aT.flatMap jZ++u)))):
 DF F W 222 [.P j 0,.P m 0,.fn 219 [] [.P m 0]] S=J (.bP [],Dq S j m (r.go (l.back.bytes.length+((cB l.aT.length).length+(l.aT.flatMap jZ).length))) (.M (ji k a b l.type.aq xs l.back.aq (bS m 0 12 (Es l.aT)) ir) (L9 l.aT.length) O) []):=by
 have hj:j<S.length:=(jF.1 hS).1;have P:m<S.length:=(jF.1 hm).1;have A:=N;unfold ib at A;simp only[j5]at A;have E:l.type.aq.length=3:=ck;have c1:=Fq l.back U.back A.1 hS hr 204 rfl rfl (λT=>by rw[sx l.back U.back,N]);have hm1:(S.set j (eY j (r.go l.back.bytes.length)))[m]? =J (.M (ji k a b l.type.aq xs ys .ar ir) [] O):=by simp_all
 have st1:a_ [] S.length (S.set j (eY j (r.go l.back.bytes.length))) 6 (.P m 12) (.A l.back.aq)=J ([],Dq S j m (r.go l.back.bytes.length) (.M (ji k a b l.type.aq xs l.back.aq (bS m 0 12 (Es [])) ir) (L9 0) O) []):=by rw[en (xT (a8.dB l.back)) hm1,if_pos ⟨by simp,by rw[mc E hx hy];omega⟩];simp_all[adj,Dq,bS,Es,L9]
 have R1:=hr.go;have c2:=mz (Gp hS XT (r.go l.back.bytes.length) (.M (ji k a b l.type.aq xs l.back.aq (bS m 0 12 (Es [])) ir) (L9 0) O) []) (n:=l.aT.length) D R1;rw[L8 hS XT]at c2;have R2:=R1.go;have XF:∀d i(w:Rd)(f:ch)(c:List eR),i+d=l.aT.length->pC w ((l.aT.drop i).flatMap jZ++u)->
  ∃s p,DC F W (.L Aw) ⟨[(0,.P j 0),(1,.P m 0),(2,.fn 219 [] [.P m 0]),(6,.I bm (l.aT.length:Int)),(7,.I bm (i:Int))],f,S.length⟩ (Dq S j m w (.M (ji k a b l.type.aq xs l.back.aq (bS m 0 12 (Es (l.aT.take i))) ir) (L9 i) O) c)=
   J (.E 0,⟨[],s,S.length⟩,Dq S j m (w.go ((l.aT.drop i).flatMap jZ).length) (.M (ji k a b l.type.aq xs l.back.aq (bS m 0 12 (Es l.aT)) ir) (L9 l.aT.length) O) p):=by
  intro d;induction d with
  |zero=>
   intro i w f c hi v;have ei:i=l.aT.length:=D;have e3:l.aT.drop i=[]:=iy D;refine⟨f,c, ?_⟩;simp[av,bf mo,e3,(ob D:l.aT.take i=l.aT),ei,Rd.go]
  |succ d ih=>
   intro i w f c hi v;have h3:i<l.aT.length:=D;have⟨y,I,hy'⟩:=aQ (l:=l.aT) (i:=i) D;have ym:=fH I;have hw:gh bm ((i:Int)+1)=((i+1:Nat):Int):=by show((i:Int)+1)%2^64=_;omega
   have L:=qw.1 hpr y ym;have yw:=U.pair y ym;unfold rD at L;simp only[j5]at L;have yx:=L.1;unfold ib at yx;simp only[j5]at yx;have yy:=nq L.2;rw[aZ I,vM]at v⊢;unfold jZ at v;rw[oH,oH]at v;have Q1:=v.go;have Q2:=Q1.go;have lP:(l.aT.take i).length=i:=by grind
   generalize hB:eR.M (ji k a b l.type.aq xs l.back.aq (bS m 0 12 (Es (l.aT.take i))) ir) (L9 i) O=B at*;have ce:=wz (Gp hS XT w B c) v;have d1:=Fq y.x yw.1 yx.1 (Gp hS XT w B c) v 204 rfl rfl (λT=>by rw[sx y.x yw.1,L.1]);rw[L8 hS XT]at d1;have C:∀e z p,(Dq S j m e z p).length=S.length+p.length:=λe z p=>by simp[Dq]
   have R:∀e z p X,Dq S j m e z p++[X]=Dq S j m e z (p++[X]):=λ_ _ _ _=>Zi ..;have hsp:aV ai 0 y.x.aq=y.x.aq:=aY ck;have lx:∀e z,bk (Dq S j m e z (c++[.M y.x.aq [] O])) (.A 6) (.P (S.length+c.length) 0)=J (.A y.x.aq):=λe z=>by simp[<-R,<-C e z c,L_]
   have M:∀e p,(Dq S j m e B p)[m]? =J (.M (ji k a b l.type.aq xs l.back.aq (bS m 0 12 (Es (l.aT.take i))) ir) (L9 i) O):=λe p=>by rw[WM P,hB]
   have l18:∀e p,bk (Dq S j m e B p) .C (.P m 18)=J (bS m 0 12 (Es (l.aT.take i))):=λe p=>by rw[bV (M e p),uW,aiZ E hx ck]
   have d2:=AS (m:=m) y.y yw.2 yy.1 (Gp hS XT (w.go y.x.bytes.length) B (c++[.M y.x.aq [] O])) Q1 219 rfl rfl (by
    refine wA (k:=k) (a:=a) (b:=b) (t:=l.type) (xs:=xs) (ys:=l.back.aq) (pr:=bS m 0 12 (Es (l.aT.take i))) (ir:=ir) (bt:=L9 i) (q:=O) ?_ y.y yw.2 U.type L.2
    grind [gC])
   rw[L8 hS XT]at d2
   have⟨v1,t1,S1,t2,a1,Q⟩:=adg (sz:=12) (es:=Es (l.aT.take i)) (x:=y.aq) (o:=18) f 0 (M ((w.go y.x.bytes.length).go y.y.bytes.length) (c++[.M y.x.aq [] O])) (λh=>by
    have:l.aT.take i=[]:=by simpa[Es]using h
    have:i=0:=by simp_all
    rw[this];rfl) (λh=>by
    grind [L9,RE]) (by simp;omega) (by rw[mc E hx ck];omega) (by rw[<-RD];exact Ki _)
   rw[WN P,adh E hx ck,<-RD]at Q;have eu:(if Es (l.aT.take i)=[]then L9 i++[J 1]else(L9 i).set 0 (J ((Es (l.aT.take i)).length+1)))=L9 (i+1):=by grind [RE,L9]
   rw[eu,<-(by rw[sP,I];rfl:l.aT.take (i+1)=l.aT.take i++[y])]at Q;have⟨s,p,n1⟩:=ih (i+1) ((w.go y.x.bytes.length).go y.y.bytes.length) t2 (c++[.M y.x.aq [] O]) D Q2;refine⟨s,p, ?_⟩;have es:(w.go y.x.bytes.length).go y.y.bytes.length=w.go (y.x.bytes.length+y.y.bytes.length):=ck;rw[(by simp[Rd.go,jZ,yq]:w.go (jZ y++(l.aT.drop (i+1)).flatMap jZ).length=(w.go (y.x.bytes.length+y.y.bytes.length)).go ((l.aT.drop (i+1)).flatMap jZ).length)];have st:∀e,a_ f S.length (Dq S j m e B (c++[.M ai [] O])) 6 (.P (S.length+c.length) 0) (.A y.x.aq)=J (f,Dq S j m e B (c++[.M y.x.aq [] O])):=λe=>by rw[<-R,<-R,<-C e B c,Hp (xT (a8.dB y.x))];simp
   have pe:bE lC [(0,6,.A y.x.aq),(6,6,.A y.y.aq)]=J y.aq:=by simp_all[aV,eB.aq,bE]
   have bo:dq 12 [lC] [(0,.A y.aq)]=J [y.aq]:=by simp_all[dq]
   simp only[es]at a1 Q n1;rw[av,bf mo];simp only[es]at d2;have ld:=C;simp[-List.length_flatMap]at hw n1 bo pe;simp[h3,ce,(rfl:b6 .eql (.dA cC) Y .aD .aD=J (.B Y)),d1,R,ld,st,cn,l18,lx,d2,pe,bo,a1,Q, -List.length_flatMap];rw[ak mo];simp[hw,n1, -List.length_flatMap]
 have⟨s,p,g⟩:=XF l.aT.length 0 _ [] [] D R2;simp only[List.take_zero,qf]at g;have tk:∀e z,(Dq S j m e z p).take S.length=Dq S j m e z []:=λe z=>by grind [Dq]
 rw[(by simp[Rd.go,yq]:((r.go l.back.bytes.length).go (cB l.aT.length).length).go (l.aT.flatMap jZ).length=r.go (l.back.bytes.length+((cB l.aT.length).length+(l.aT.flatMap jZ).length)))]at g;rw[Py ahr];simp at c1 c2;simp[-List.length_flatMap]at g;simp[c1,cn,st1,c2,(eq_false D:((8:Int)<(l.aT.length:Int))=False), -List.length_flatMap];rw[ak mo];simp[g,tk,cd,aJ,bY,aC, -List.length_flatMap]
end
def bcs(x:List UInt8):jb:=x.map λb=>[cg b]
@[simp]def akw(x:List UInt8)(i:Nat):(bcs x)[i]? =(x[i]?).map λb=>[cg b]:=by simp[bcs]
@[simp]def WW(r:oc)(x:List UInt8)(k:IntKind)(i:Nat):oZ 1 (.sl r 1 (bcs x)) (.I k (i:Int))=(x[i]?).map λb=>.dP (yY r) [cg b] 0:=by simp only[oZ];rw[uQ];simp[zP]
def RF(x:UInt32):H:=.I .u32 (x.toNat:Int)
def RG(x:UInt64):H:=.I bm (x.toNat:Int)
@[simp]def amQ(x:UInt32):bI (RF x)=Y:=rfl
@[simp]def amR(x:UInt32):bD (RF x)=RF x:=rfl
@[simp]def amS(t:ch)(x:UInt32):aP t (RF x)=(RF x,t):=rfl
@[simp]def amT(x:UInt32):aC (RF x)=Y:=rfl
@[simp]def amU(S:G)(x:UInt32):b7 S (RF x)=J (RF x):=rfl
@[simp]def amV(S:G)(x:UInt32):ca S (RF x)=S:=rfl
@[simp]def amW(S S':G)(x:UInt32):bC S S' (RF x)=S':=rfl
@[simp]def amX(x:UInt32):cJ (RF x)=RF x:=rfl
@[simp]def amY(t:ch)(x:UInt32):aK t (RF x)=(RF x,t):=rfl
@[simp]def amZ(x:UInt64):bI (RG x)=Y:=rfl
@[simp]def am0(x:UInt64):bD (RG x)=RG x:=rfl
@[simp]def am1(t:ch)(x:UInt64):aP t (RG x)=(RG x,t):=rfl
@[simp]def am2(x:UInt64):aC (RG x)=Y:=rfl
@[simp]def am3(S:G)(x:UInt64):b7 S (RG x)=J (RG x):=rfl
@[simp]def am4(S:G)(x:UInt64):ca S (RG x)=S:=rfl
@[simp]def am5(S S':G)(x:UInt64):bC S S' (RG x)=S':=rfl
@[simp]def am6(x:UInt64):cJ (RG x)=RG x:=rfl
@[simp]def am7(t:ch)(x:UInt64):aK t (RG x)=(RG x,t):=rfl
def bvo(n m:Nat):(j0 n (m:Int)).toNat=m %2^n:=by rfl
def ku(a b:Int):aE .add (.I V a) (.I V b)=J (.I V (gh V (a+b))):=rfl
def acj(a b:Int):aE .sub (.I V a) (.I V b)=J (.I V (gh V (a -b))):=rfl
def dR(a b:Int):aE .lss (.I V a) (.I V b)=J (.B (aN (a<b))):=rfl
@[simp]def apG:gh V 0=0:=rfl
@[simp]def apH:gh V 1=1:=rfl
@[simp]def apI:gh V 2=2:=rfl
@[simp]def apJ:gh V 3=3:=rfl
@[simp]def apK:gh V 4=4:=rfl
@[simp]def apL:gh V 5=5:=rfl
@[simp]def apM:gh V 6=6:=rfl
@[simp]def apN:gh V 7=7:=rfl
@[simp]def apO:gh V 8=8:=rfl
@[simp]def apP:gh V 9=9:=rfl
@[simp]def aog:gh V 10=10:=rfl
def ags(a b:Nat)(h:a+b<100000000):aE .add (.I V (a:Int)) (.I V (b:Int))=J (.I V ((a+b:Nat):Int)):=by show J (AV.I V (gh V ((a:Int)+(b:Int))))=_;rw[dS D];rfl
def xQ(es:jb):gG 1 es=.sl .N 1 es:=by cases es<;>rfl
def pC.end_{r:Rd}(h:pC r []):r.PJ=Z:=by unfold Rd.PJ;have a:=h.hl;unfold Rd.left at a;have:=List.drop_eq_nil_iff.1 a;rw[uQ,h.he]
def Vc{S:G}{j:Nat}{r:Rd}(a:S[j]? =J (eY j r))(h:pC r []):DF F W 145 [.P j 0] S=J (.aD,S):=by rw[Lo a h.ho h.hb,h.end_];rfl
def Re(b:Bool)(s:K)(a:s≠[]):aK [] (u9 b s)=if b=Y then(if 4096<s.length then(.bP [.ar,r6 3],[])else(.bP [.sl (.fr 0) 1 (fA s),.aD],[J s.length]))else(.bP [.ar,r6 1],[]):=by grind [u9,Vd,pV,r7]
def Mj{c:UInt8}:∀{s w:K}{l:List K},BZ c s=w::l->c∉w/\(l=[]/\s=w\/∃r,s=w++c::r/\BZ c r=l)
 |[],w,l,h=>by simp[BZ]at h;obtain⟨rfl,rfl⟩:=h;simp
 |x::s,w,l,h=>by
  unfold BZ at h;split at h
  ·rename_i e
   cases h;exact⟨by simp,.inr ⟨s,by simp[e],rfl⟩⟩
  ·rename_i e
   cases d:BZ c s with
   |nil=>exact absurd d (H8 c s)
   |cons v m=>
    rw[d]at h;cases h;have⟨f,g⟩:=Mj d;refine⟨by simp[f,Ne.symm e], ?_⟩;rcases g with⟨a,b⟩|⟨r,a,b⟩;·exact .inl ⟨a,by rw[b]⟩
    ·exact .inr ⟨r,by rw[a];rfl,b⟩
def Ii{c:UInt8}:∀{w:K}(_:c∉w)(r:K)(k:Nat),Ej (w++c::r) (c.toNat:Int) k=((k+w.length:Nat):Int)
 |[],_,r,k=>by simp[Ej]
 |x::w,h,r,k=>by have a:x≠c:=λe=>h (by simp[e]);have b:¬((x.toNat:Int)=(c.toNat:Int)):=λe=>a (UInt8.toNat_inj.1 (by omega));rw[zH,Ej,if_neg b,Ii (λe=>h (by simp[e])) r (k+1)];simp;omega
def Ij(c:UInt8):∀s:K,(BZ c s).length=vg c s+1
 |[]=>rfl
 |x::r=>by
  have h:=Ij c r;unfold BZ vg;by_cases e:x=c;·rw[if_pos e,if_pos e];simp[h]
  ·rw[if_neg e,if_neg e]
   split
   ·rename_i w l a
    rw[a]at h;simpa using h
   ·rename_i a
    exact absurd a (H8 c r)
def Ik(s:K)(c:UInt8)(S:G):DF F W 100 [.S s,.S [c]] S=J (.I V (Ej s (c.toNat:Int) 0),S):=by
 have h:qU [.S s,.I .u8 (c.toNat:Int)] S=J (.I V (Ej s (c.toNat:Int) 0),S):=by have:=c.toNat_lt;simp only[qU];rw[if_pos (by omega)]
 rw[jE aia];by_cases e:[c]=s
 ·subst e
  simp-implicitDefEqProofs [h,Ej]
 ·simp-implicitDefEqProofs [h,e]
def F4(s:K)(c:UInt8)(S:G):DF F W 139 [.S s,.S [c]] S=J (.I V (Ej s (c.toNat:Int) 0),S):=by have f:=λT=>Ik s c T;rw[jE aiu];simp-implicitDefEqProofs [f]
def OZ(l:List K):eR:=.M (l.map .S) [] O
def RT(S:G)(l:List K):(S++[OZ l])[S.length]? =J (.M (l.map .S) [] O):=ug S _
def RU(S:G)(l:List K)(i:Nat)(w:K)(h:i<l.length)(z:Nat)(a:z=1):a_ [] S.length (S++[OZ l]) z (.P S.length i) (.S w)=J ([],S++[OZ (l.set i w)]):=by
 subst a;have g:=RT S l;simp only[a_,g];rw[if_pos (by simp[fL,AV.cells];omega)];have e:aV (l.map AV.S) i [AV.S w]=(l.set i w).map .S:=by
  unfold aV;apply G6;intro j;simp only[List.getElem?_append,List.length_take,List.length_map,jI,nI]
  grind
 simp[iR,e,OZ,AV.cells,aH]
def Il(c:UInt8)(n:Nat)(u:n<=2000000)(S:G):∀(l:List K)(w s:K)(done:List K),BZ c s=w::l->n=done.length+l.length+1->s.length<=1000000->
 DC F W (.L s_) ⟨[(0,.S s),(1,.S [c]),(2,.I V 0),(3,.I V ((n:Int) -1)),(9,.dQ S.length 0 n n 1),(10,.I V (done.length:Int))],[],S.length⟩ (S++[OZ (done++eL (l.length+1) [])])=
  J (.E 0,⟨[(0,.S ((w::l).getLast (by simp))),(9,.dQ S.length 0 n n 1),(10,.I V ((n:Int) -1))],[],S.length⟩,S++[OZ (done++(w::l).dropLast++[[]])])
 |[],w,s,done,h,hl,hs=>by
  have⟨_,h2⟩:=Mj h;have e:s=w:=by
   rcases h2 with h2|⟨r,_,h2⟩;·exact h2.2
   ·exact absurd h2 (H8 c r)
  subst e;have p:(done.length:Int)=(n:Int) -1:=by simp at hl;omega
  have f:aE .lss (.I V ((n:Int) -1)) (.I V ((n:Int) -1))=J (.B O):=by rw[dR];simp
  rw[av,bf iW,p];simp-implicitDefEqProofs [-aE,f]
 |v::l,w,s,done,h,hl,hs=>by
  have⟨t,h2⟩:=Mj h;obtain⟨r,rfl,y⟩:∃r,s=w++c::r/\BZ c r=v::l:=by
   rcases h2 with h2|h2;·cases h2.1
   ·exact h2
  simp only[jf,jI]at hl hs;have d:=Il c n u S l v r (done++[w]) y (by simp;omega) (by omega);have f:aE .lss (.I V (done.length:Int)) (.I V ((n:Int) -1))=J (.B Y):=by rw[dR,decide_eq_true (by omega)]
  have g:=λT=>F4 (w++c::r) c T;rw[Ii t,wL]at g;have o:aE .lss (.I V (w.length:Int)) (.I V 0)=J (.B O):=by rw[dR,decide_eq_false (by omega)]
  have j:aE .add (.I V (w.length:Int)) (.I V 0)=J (.I V (w.length:Int)):=by rw[ku,dS (by omega)];simp
  have k:aE .add (.I V (w.length:Int)) (.I V 1)=J (.I V ((w.length:Int)+1)):=by rw[ku,dS (by omega)]
  have m:aE .add (.I V (done.length:Int)) (.I V 1)=J (.I V ((done++[w]).length:Int)):=by rw[ku,dS (by omega)];simp
  have z:FH (.S (w++c::r)) Z (J (.I V (w.length:Int)))=J (.S w):=by simp only[FH,hJ];rw[if_pos (by simp;omega)];simp
  have C:FH (.S (w++c::r)) (J (.I V ((w.length:Int)+1))) Z=J (.S r):=by simp only[FH,hJ];rw[if_pos (by simp;omega)];simp only[uP];rw[show((w.length:Int)+1).toNat=(w++[c]).length by simp,show w++c::r=(w++[c])++r by simp];exact congrArg (λx=>J (AV.S x)) Q7
  have I:oZ 1 (.dQ S.length 0 n n 1) (.I V (done.length:Int))=J (.P S.length done.length):=by simp only[oZ];rw[if_neg (by omega),if_pos (by rw[NL];constructor<;>first|trivial|omega)];simp
  have i:=RU S (done++eL (l.length+1+1) ([]:K)) done.length w (by simp) 1 rfl;have E:(done++eL (l.length+1+1) ([]:K)).set done.length w=done++[w]++eL (l.length+1) []:=by rw[List.set_append_right _ _ (eI _)];simp[JD]
  rw[E]at i;have P:([c]:K).length=1:=rfl;rw[show(done++[w]++(v::l).dropLast++[[]])=done++(w::v::l).dropLast++[[]]by simp]at d;have q:(w::v::l).getLast (by simp)=(v::l).getLast (by simp):=by simp
  rw[av,bf iW,q];simp only[jI]at d⊢;generalize(v::l).getLast _=Q at d⊢;generalize OZ (done++(w::v::l).dropLast++[[]])=b at d⊢;generalize L:OZ (done++eL (l.length+1+1) ([]:K))=A at*;generalize M:OZ (done++[w]++eL (l.length+1) [])=B at*;generalize N:((done++[w]).length:Int)=a at*;generalize w++c::r=s at*;simp-implicitDefEqProofs [-aE,f,g,o,j,k,m,z,C,I,i];rw[ak iW];simp-implicitDefEqProofs [-aE,d]
def O0(l:List K):jb:=l.map λw=>[.S w]
def Zx{T:G}{i n:Nat}{l:List K}(h:T[i]? =J (.M (l.map .S) [] O))(b:l.length=n):cI T (.dQ i 0 n n 1)=J (1,O0 l):=by
 simp only[cI,h];rw[if_pos ⟨by simp[b],by omega⟩];congr 2;apply G6;intro j;unfold O0;rw[uU,uU];by_cases a:j<n
 ·rw[U6 a,cx (by omega)]
  simp only[zG,wL,Nat.mul_one];have e:sub (l.map AV.S) j 1=[.S l[j]]:=by unfold sub;rw[<-List.map_drop,List.drop_eq_getElem_cons (by omega)];rfl
  rw[e];rfl
 ·rw[G5 (by simp;omega),G5 (by omega)]
  rfl
def aa2(T:G)(nb d:Nat):∀l:List K,((O0 l).mapM λ(x:bN)=>x.mapM (wb T nb (d+1)))=J (O0 l)
 |[]=>rfl
 |w::r=>by
  have h:=aa2 T nb d r;have e:wb T nb (d+1) (.S w)=J (.S w):=by simp[wb,aO]
  unfold O0 at h⊢;simp[yB,h,e]
def adA{T:G}{nb i n:Nat}{l:List K}(h:T[i]? =J (.M (l.map .S) [] O))(a:l.length=n)(e:nb<=i):MA T nb (.dQ i 0 n n 1)=J (.sl .N 1 (O0 l)):=by
 have c:=Zx h a;have d:=aa2 T nb 10 l;have b:MA T nb (.dQ i 0 n n 1)=wb T nb (11+1) (.dQ i 0 n n 1):=rfl
 grind [wb,aO]
def Fu(l:List K):dy (O0 l)=Y:=by
 induction l with
 |nil=>rfl
 |cons w r a=>simpa[O0,dy,bQ,aO]using a
def Qi(s:K)(c:UInt8)(P:s.length<=1000000)(S:G):DF F W 101 [.S s,.S [c],.I V 0,.I V (-1)] S=J (.sl .N 1 (O0 (BZ c s)),S):=by
 have j:∀T,countP [.S s,.S [c]] T=J (.I V (vg c s),T):=λ_=>rfl;have i:=Ij c s;have I:vg c s<=s.length:=by have:=RJ c s;have:=List.count_le_length (a:=c) (l:=s);omega
 obtain⟨w,l,k⟩:∃w l,BZ c s=w::l:=by
  cases h:BZ c s with
  |nil=>exact absurd h (H8 c s)
  |cons w l=>exact⟨w,l,rfl⟩
 rw[k]at i⊢;simp only[jI]at i;have L:=Il c (vg c s+1) (by omega) S l w s [] k (by simp;omega) (by omega);have v:vg c s=l.length:=by omega
 rw[show(([]:List K).length:Int)=0 from rfl]at L;rw[v]at L j;have r:aE .lss (.I V (-1)) (.I V 0)=J (.B Y):=rfl;have t:aE .eql (.I V (-1)) (.I V 0)=J (.B O):=rfl;have u:bG .eql (.S [c]) (.S [])=J (.B O):=rfl;have n:aE .add (.I V (l.length:Int)) (.I V 1)=J (.I V ((l.length+1:Nat):Int)):=by rw[ku,dS (by omega)];rfl
 have o:aE .add (.I V (s.length:Int)) (.I V 1)=J (.I V ((s.length:Int)+1)):=by rw[ku,dS (by omega)]
 have y:sv (λa b=>aN (b<a)) V ((l.length+1:Nat):Int) [.I V ((s.length:Int)+1)]=J (.I V ((l.length+1:Nat):Int)):=by
  have h:¬((s.length:Int)+1<((l.length+1:Nat):Int)):=by omega
  simp only[sv,h,decide_false,vD,if_false]
 have x:BQ 1 [.S []] S (.I V ((l.length+1:Nat):Int)) (.I V ((l.length+1:Nat):Int))=J (.dQ S.length 0 (l.length+1) (l.length+1) 1,S++[OZ ([]++eL (l.length+1) [])]):=by simp only[BQ];rw[if_pos (by omega)];simp[OZ]
 have A:aE .sub (.I V ((l.length+1:Nat):Int)) (.I V 1)=J (.I V (((l.length+1:Nat):Int) -1)):=by rw[acj,dS (by omega)]
 have E:oZ 1 (.dQ S.length 0 (l.length+1) (l.length+1) 1) (.I V (((l.length+1:Nat):Int) -1))=J (.P S.length l.length):=by simp only[oZ];rw[if_neg (by omega),if_pos (by constructor<;>first|trivial|omega)];simp
 have m:=RU S ([]++(w::l).dropLast++[[]]) l.length ((w::l).getLast (by simp)) (by simp) 1 rfl;have B:([]++(w::l).dropLast++[([]:K)]).set l.length ((w::l).getLast (by simp))=w::l:=by rw[rB,List.set_append_right _ _ (by simp)];simp only[List.length_dropLast,jI,Nat.add_sub_cancel,Nat.sub_self,List.set_cons_zero];exact List.dropLast_concat_getLast (by simp)
 rw[B]at m;have q:aE .add (.I V (((l.length+1:Nat):Int) -1)) (.I V 1)=J (.I V ((l.length+1:Nat):Int)):=by rw[ku,dS (by omega)];congr 2;omega
 have C:Cd 1 (.dQ S.length 0 (l.length+1) (l.length+1) 1) Z (J (.I V ((l.length+1:Nat):Int)))=J (.dQ S.length 0 (l.length+1) (l.length+1) 1):=by simp only[Cd,hJ];rw[if_neg (by simp),if_pos (by omega)];simp
 have z:cd 101 [] [.dQ S.length 0 (l.length+1) (l.length+1) 1] S (S++[OZ (w::l)])=J (.sl .N 1 (O0 (w::l)),S):=by
  have M:=adA (T:=S++[OZ (w::l)]) (nb:=S.length) (RT S _) (show(w::l).length=l.length+1 by simp) (eI _);have p:=Fu (w::l);generalize O0 (w::l)=d at*
  grind [kq,bI,bD,aP,aC,aO,M6,Ya,ia,vB,lt]
 generalize OZ ([]++(w::l).dropLast++[[]])=f at*;generalize OZ ([]++eL (l.length+1) [])=e at*;generalize(w::l).getLast _=Q at*;generalize OZ (w::l)=X at*;generalize O0 (w::l)=d at*;generalize((l.length+1:Nat):Int)=N at*;rw[G_ (args:=[.S s,.S [c],.I V 0,.I V (-1)]) aib (Nat.le_of_ble_eq_true rfl) S];simp only[Pw,SK];have g:¬([c]=([]:K)):=by simp
 simp-implicitDefEqProofs [-aE,r,t,u,g,j,n,o,y,x,A];rw[ak iW];simp-implicitDefEqProofs [-aE,L,E,m,q,C,z]
def im(s:K)(b:s.length<=1000000)(S:G):DF F W 67 [.S s,.S [32]] S=J (.sl .N 1 (O0 (BZ 32 s)),S):=by
 have f:=λT=>Qi s 32 b T;have c:cd 67 [] [.sl .N 1 (O0 (BZ 32 s))] S S=J (.sl .N 1 (O0 (BZ 32 s)),S):=by have p:=Fu (BZ 32 s);simp[kq,bI,bD,aP,aC,aO,p]
 rw[jE amn];generalize O0 (BZ 32 s)=a at*;have d:aK [] (.sl .N 1 a)=(.sl .N 1 a,[]):=rfl;simp-implicitDefEqProofs [f,d,c]
section
mutual
def bF.depth:bF->Nat
 |.mk _ _ _ _ _ _ _ ps=>bF.gX 1 ps
def bF.gX:Nat->List bF->Nat
 |n,[]=>n
 |n,v::r=>bF.gX (if n<bF.depth v+1 then bF.depth v+1 else n) r
end
def bF.jK(v:bF):v.depth=bF.gX 1 v.bT:=by cases v;rfl
def bF.iK:∀(l:List bF)(n m:Nat),bF.gX n l<=m↔n<=m/\∀p∈l,p.depth+1<=m
 |[],n,m=>by simp[bF.gX]
 |v::r,n,m=>by
  simp[bF.gX,bF.iK r];constructor
  ·rintro⟨a,b⟩
   refine⟨?_, ?_,b⟩<;>(split at a<;>omega)
  ·rintro⟨a,c,b⟩
   refine⟨?_,b⟩;split<;>omega
mutual
def bF.gQ:bF->Bool
 |.mk k a b t x y ps is=>(bF.mk k a b t x y ps is).jG&&bF.oo is
def bF.oo:List bF->Bool
 |[]=>Y
 |v::r=>bF.gQ v&&bF.oo r
end
def bF.oO:∀l:List bF,bF.oo l=l.all bF.gQ
 |[]=>by rfl
 |v::r=>by simp[bF.oo,bF.oO r]
def bF.qi(v:bF):v.gQ=(v.jG&&v.bT.all bF.gQ):=by cases v;simp[bF.gQ,bF.bT,bF.oO]
def bF.w7:∀(d:Nat)(v:bF),v.ba d=(aN (v.depth<=d)&&v.gQ):=by
 intro d;induction d with
 |zero=>
  intro v;have:¬v.depth<=0:=by rw[bF.jK,bF.iK];omega
  grind [bF.ba]
 |succ d a=>
  intro v;rw[bF.ba,bF.qi,wU];simp;rw[bF.jK,bF.iK]
  grind
def Ap(v:bF)(hl:v.bT.length<9223372036854775808)(B:Nat)(r:B<1000000)(S:G)(p:∀x∈v.bT,x.depth<B/\∀S,DF F W 59 [.A x.aq] S=J (.I V (x.depth:Nat),S))(nb:Nat):∀d i(n:Nat),i+d=v.bT.length->
 DC F W (.L qB) ⟨[(1,.P S.length 0),(3,.I V n),(4,.I V (i:Nat))],[],nb⟩ (S++[.M v.aq [] O])=J (.E 0,⟨[(3,.I V (bF.gX n (v.bT.drop i):Nat))],[],nb⟩,S++[.M v.aq [] O]):=by
 intro d;induction d with
 |zero=>
  intro i n q;rw[av,bf fT];simp[(D:¬i<v.bT.length),(iy D:v.bT.drop i=[]),bF.gX]
 |succ d o=>
  intro i n q;have j:i<v.bT.length:=D;rw[av,bf fT];have⟨y,m,f⟩:=aQ (l:=v.bT) (i:=i) D;rw[aZ m];have⟨s,g⟩:=p y (fH m);have g:=g (S++[.M v.aq [] O]);have h:=bj (i:=i) D;have a:gh V ((y.depth:Int)+1)=((y.depth+1:Nat):Int):=by grind [wrap_i64]
  rw[bF.gX];by_cases b:n<y.depth+1
  ·have e:=o (i+1) (y.depth+1) D
   have c:(n:Int)<(y.depth:Int)+1:=D;simp at e h a;simp[j,f,g,a,b,c];rw[ak fT];simp[h,e]
  ·have e:=o (i+1) n D
   simp at e h a;simp[j,f,g,a,b,(D:¬(n:Int)<(y.depth:Int)+1)];rw[ak fT];simp[h,e]
def Aq(v:bF):v.Wf->v.depth<1000000->∀S:G,DF F W 59 [.A v.aq] S=J (.I V (v.depth:Nat),S):=by
 induction v using bF.ind with
 |h v d=>
  intro a hd S;rw[fI alL];have e:=((bF.iK v.bT 1 v.depth).1 (by rw[bF.jK];omega)).2;have h:=Ap v a.one.bT v.depth hd S (λx b=>⟨by grind,λc=>d x b (a.all x b) (by grind) c⟩) S.length v.bT.length 0 1 D;simp only[qf,<-bF.jK]at h;simp at h;simp;rw[ak fT];simp[h]
def rM(v:a8)(b:v.Wf)(hd:v.depth<1000000)(S:G):DF F W 99 [.A v.aq] S=J (.B (ib v),S):=by
 rw[fI alM];unfold ib;by_cases k:v.ae<5
 ·have a:v.ae<=4:=D
  simp[oP v b hd (S++[.M v.aq [] O]),k,a]
 ·have a:¬v.ae<=4:=D
  simp[k,a]
def sY(k:Int)(S:G):DF F W 62 [.I V k] S=J (.B (rn k),S):=by
 rw[fI alN];unfold rn;by_cases c:k=1;·simp[c]
 ·by_cases a:k=4
  ·simp[a]
  ·simp[c,a]
def sZ(k:Int)(S:G):DF F W 63 [.I V k] S=J (.B (qb k),S):=by
 rw[fI alO];unfold qb;by_cases c:k=2;·simp[c]
 ·by_cases a:k=3
  ·simp[a]
  ·simp[c,a]
def bF.Ar(l:bF):Bool:=aN (l.ae<1)||(aN (10<l.ae)|| !eN l.a)
def bF.Ht(l:bF):Bool:=(rn l.ae&&(!eN l.b||aN (l.a=l.b)))||(!rn l.ae&& !l.b.isEmpty)
def bF.Vm(l:bF):Bool:=(qb l.ae&& !oi l.base l.type)||(!qb l.ae&&(!sB l.type|| !lQ l.base))
def bF.Vn(l:bF):Bool:= !aN (l.ae=8)&&(!lQ l.back|| !l.aT.isEmpty)
def bF.Vo(l:bF):Bool:=aN (4<l.type.ae)||(!ib l.back||aN (8<l.aT.length))
def bF.PW(l:bF):l.gQ=(!l.Ar&&(!l.Ht&&(!l.Vm&&(!l.Vn&&((!aN (l.ae=8)||(!l.Vo&&l.aT.all (rD l.type)))&&(if l.ae<9 then l.bT.isEmpty else aN (l.bT.length=1)&&l.bT.all bF.gQ)))))):=by
 have a:l.bT.isEmpty=Y->l.bT.all bF.gQ=Y:=λh=>by simp_all
 have b:aN (l.a=l.b)=aN (l.b=l.a):=by grind
 have c:aN (4<l.type.ae)= !aN (l.type.ae<=4):=by grind
 have d:aN (8<l.aT.length)= !aN (l.aT.length<=8):=by grind
 rw[bF.qi];unfold bF.jG bF.Ar bF.Ht bF.Vm bF.Vn bF.Vo rn qb
 grind [ib]
structure bF.Dp(l:bF):Prop where
 type:l.type.depth<1000000
 base:l.base.depth<1000000
 back:l.back.depth<1000000
 pair:∀p∈l.aT,p.x.depth<1000000/\p.y.depth<1000000
inductive bF.Deep:bF->Prop
 |mk (l:bF) (one:l.Dp) (all:∀x∈l.bT,bF.Deep x):bF.Deep l
def bF.Deep.one{v:bF}(h:v.Deep):v.Dp:=by cases h;assumption
def bF.Deep.all{v:bF}(h:v.Deep):∀p∈v.bT,bF.Deep p:=by cases h;assumption
section
variable(l:bF)(hl:l.DI)(hd:l.Dp)(S:G)(sl:KE)(ab:ch)(nb:Nat)(k:KC)
include hl in
theorem D8(b:KE.get sl 1=.P S.length 0)(c:KE.get sl 3=.I V l.ae):uV F W (.dJ [1,3,18] k) (wR (qo (kU W (DF F W)) qC ⟨sl,ab,nb⟩ (S++[.M l.aq [] O])))=DC F W k ⟨[(1,.P S.length 0),(3,.I V l.ae),(18,.B l.Ar)],ab,nb⟩ (S++[.M l.aq [] O]):=by
 rw[pJ];unfold bF.Ar;by_cases a:l.ae<1;·simp[b,c,a]
 by_cases d:10<l.ae;·simp[b,c,a,d]
 simp[b,c,a,d,i_ l.a hl.a (S++[.M l.aq [] O]),bw]
include hl in
theorem D9(c:KE.get sl 1=.P S.length 0)(d:KE.get sl 3=.I V l.ae):uV F W (.dJ [1,3,43] k) (wR (qo (kU W (DF F W)) qD ⟨sl,ab,nb⟩ (S++[.M l.aq [] O])))=DC F W k ⟨[(1,.P S.length 0),(3,.I V l.ae),(43,.B l.Ht)],ab,nb⟩ (S++[.M l.aq [] O]):=by
 have e:=i_ l.b hl.b (S++[.M l.aq [] O]);have b:=sY l.ae (S++[.M l.aq [] O]);rw[pL];unfold bF.Ht;have h:aN (l.b=[])=l.b.isEmpty:=by grind
 cases g:rn l.ae<;>rw[g]at b;·simp[c,d,b,bw]
 ·cases f:eN l.b<;>rw[f]at e<;>by_cases a:l.a=l.b<;>simp[c,d,b,e,a,bw]
include hl hd in
theorem D_(d:KE.get sl 1=.P S.length 0)(e:KE.get sl 3=.I V l.ae):uV F W (.dJ [1,3,72] k) (wR (qo (kU W (DF F W)) qE ⟨sl,ab,nb⟩ (S++[.M l.aq [] O])))=DC F W k ⟨[(1,.P S.length 0),(3,.I V l.ae),(72,.B l.Vm)],ab,nb⟩ (S++[.M l.aq [] O]):=by
 have f:=tX l.base l.type hl.base hl.type hd.base hd.type (S++[.M l.aq [] O]);have a:=sZ l.ae (S++[.M l.aq [] O]);have c:=tV l.type (.mk 0 [] []) hl.type.cO qa (S++[.M l.aq [] O]);have g:=ga l.base mD hl.base.cO gJ (S++[.M l.aq [] O]);rw[pc]at c;rw[ly]at g;rw[pM];unfold bF.Vm;cases h:qb l.ae<;>rw[h]at a;·cases b:sB l.type<;>rw[b]at c<;>simp[d,e,a,c,g,bw,bE,gY,gZ,g_,et,l_,ma,mb,iZ]
 ·cases b:oi l.base l.type<;>rw[b]at f<;>simp[d,e,a,f,bw]
include hl in
theorem Ea(b:KE.get sl 1=.P S.length 0)(c:KE.get sl 3=.I V l.ae):uV F W (.dJ [1,3,87] k) (wR (qo (kU W (DF F W)) qF ⟨sl,ab,nb⟩ (S++[.M l.aq [] O])))=DC F W k ⟨[(1,.P S.length 0),(3,.I V l.ae),(87,.B l.Vn)],ab,nb⟩ (S++[.M l.aq [] O]):=by
 have a:=ga l.back mD hl.back.cO gJ (S++[.M l.aq [] O]);rw[ly]at a;have f:aN (0<l.aT.length)= !l.aT.isEmpty:=by grind
 rw[pO];unfold bF.Vn;by_cases d:l.ae=8;·simp[b,c,d]
 ·cases e:lQ l.back<;>rw[e]at a<;>simp[b,c,d,a,bw,bE,gY,gZ,g_,et]
  simp_all
include hl hd in
theorem Eb(b:KE.get sl 1=.P S.length 0)(c:KE.get sl 3=.I V l.ae):uV F W (.dJ [1,3,105] k) (wR (qo (kU W (DF F W)) qG ⟨sl,ab,nb⟩ (S++[.M l.aq [] O])))=DC F W k ⟨[(1,.P S.length 0),(3,.I V l.ae),(105,.B l.Vo)],ab,nb⟩ (S++[.M l.aq [] O]):=by
 have d:=rM l.back hl.back hd.back (S++[.M l.aq [] O]);rw[pP];unfold bF.Vo;have a:∀h:3<l.aq.length,l.aq[3]=.I V l.type.ae:=λh=>(jF.1 (by rw[bF.hO,bM.hO];rfl)).2;by_cases e:4<l.type.ae;·simp[b,c,e,a]
 ·cases f:ib l.back<;>rw[f]at d<;>simp[b,c,e,d,(by grind:decide ((8:Int)<(l.aT.length:Int))=decide (8<l.aT.length)),a,bw]
include hl hd in
theorem FR:DC F W (.L mR) ⟨[(1,.P S.length 0),(3,.I V l.ae),(4,.I V 0)],[],nb⟩ (S++[.M l.aq [] O])=
 if l.aT.all (rD l.type)=Y then J (.E 0,⟨[(1,.P S.length 0),(3,.I V l.ae)],[],nb⟩,S++[.M l.aq [] O])else J (.R,⟨[(2,.B O)],[],nb⟩,S++[.M l.aq [] O]):=by
 have g:=hl.aT;refine D6 l.aT (rD l.type) (λi=>DC F W (.L mR) ⟨[(1,.P S.length 0),(3,.I V l.ae),(4,.I V (i:Nat))],[],nb⟩ (S++[.M l.aq [] O])) _ _ ?_ ?_
 ·intro i x e
  have d:=(jF.1 e).1;have a:∀h:i<l.aT.length,l.aT[i]=x:=λh=>(jF.1 e).2;have j:=bj (i:=i) D;simp at j;have b:=fH e;have c:=rM x.x (hl.pair x b).1 (hd.pair x b).1 (S++[.M l.aq [] O]);have f:=tX x.y l.type (hl.pair x b).2 hl.type (hd.pair x b).2 hd.type (S++[.M l.aq [] O]);rw[av,bf fU];unfold rD;cases m:ib x.x<;>rw[m]at c;·simp[hW,d,a,c,bw]
  ·cases n:oi x.y l.type<;>rw[n]at f
   ·simp[hW,d,a,c,f,bw]
   ·simp[hW,d,a,c,f,bw]
    simp[ak fU,j]
 ·rw[av,bf fU]
  simp
end
def As(l:bF):l.Wf->l.Deep->∀S:G,DF F W 60 [.A l.aq] S=J (.B l.gQ,S):=by
 induction l using bF.ind with
 |h l v=>
  intro hl hd S;have b:=D8 l hl.one S;have e:=D9 l hl.one S;have f:=D_ l hl.one hd.one S;have c:=Ea l hl.one S;have g:=Eb l hl.one hd.one S;have a:=FR l hl.one hd.one S S.length;rw[fI alP,bF.PW];cases s:l.Ar;rotate_left;·simp_all
  rw[s]at b;cases t:l.Ht;rotate_left;·simp_all
  rw[t]at e;cases u:l.Vm;rotate_left;·simp_all
  rw[u]at f;cases n:l.Vn;rotate_left
  ·rw[n]at c
   simp[b];simp_all
  rw[n]at c;by_cases d:l.ae=8
  ·have i:l.ae<9:=D
   cases o:l.Vo;rotate_left
   ·rw[o]at g
    simp[b];simp[e];simp[f];simp[c];simp_all
   rw[o]at g;have w:aN (l.bT.length=0)=l.bT.isEmpty:=by grind
   cases q:l.aT.all (rD l.type)
   ·rw[q]at a
    simp[b];simp[e];simp[f];simp[c];rw[d]at g a;simp[d,g];simp at a;rw[ak fU];simp[a]
   ·rw[q]at a
    simp[b];simp[e];simp[f];simp[c];rw[d]at g a;simp[d,g];simp at a;simp[ak fU,a];simp_all
  ·by_cases i:l.ae<9
   ·simp[b]
    simp[e];simp[f];simp[c];simp[d,i]
    grind
   ·by_cases p:l.bT.length=1
    ·have⟨x,r⟩:=zS.1 p
     have m:=xU l.bT V 0;rw[r]at m;simp at m;simp[b];simp[e];simp[f];simp[c];simp[d,i,r,m,v x (by grind) (hl.all x (by grind)) (hd.all x (by grind)) (S++[.M l.aq [] O])]
    ·have j:¬((l.bT.length:Int)=1):=D
     simp[b];simp[e];simp[f];simp[c];simp[d,i,p,j]
def Au(v:bF)(d:v.Wf)(hd:v.depth<1000000)(e:v.Deep)(S:G):DF F W 29 [.A v.aq] S=J (.B (v.ba 5),S):=by
 rw[fI alQ,bF.w7];have b:=Aq v d hd (S++[.M v.aq [] O]);by_cases c:v.depth<=5
 ·have a:(v.depth:Int)<=5:=D
  simp[b,As v d e (S++[.M v.aq [] O]),c,a]
 ·have a:¬(v.depth:Int)<=5:=D
  simp[b,c,a]
end
def Ag(l:List ej)(nb:Nat)(S:G)(n:Nat)(e:l.length=n)(j:n<9223372036854775808):∀d i,i+d=n->
 DC F W (.L mQ) ⟨[(0,eO l),(3,.I V (i:Nat))],[],nb⟩ S=J (.E 0,⟨[],[],nb⟩,S)\/
 DC F W (.L mQ) ⟨[(0,eO l),(3,.I V (i:Nat))],[],nb⟩ S=J (.R,⟨[(2,.B Y)],[],nb⟩,S):=by
 intro d;induction d with
 |zero=>
  simp_all[av,fS]
 |succ d h=>
  intro i k;have b:i<n:=D;rw[av,bf fS];have⟨x,m,a⟩:=aQ (l:=l) (i:=i) D;have f:=h (i+1) D;have g:=bj (i:=i) D;simp at f g;by_cases c:(100:Int)<x.name.length
  ·right
   simp[b,e,a,c]
  ·simp[b,e,a,c]
   simp[ak fS,g];exact f
def Ah(l:List ej)(b:l.length<9223372036854775808)(S:G):∃r,DF F W 45 [eO l] S=J (.B r,S):=by
 rw[fI alB];by_cases h:l.length>40
 ·have a:(40:Int)<l.length:=D
  simp_all
 ·have a:¬(40:Int)<l.length:=D
  rcases Ag l S.length S l.length rfl b l.length 0 D with e|e
  ·refine⟨O, ?_⟩
   simp at e;simp[a];rw[ak fS];simp[e]
  ·refine⟨Y, ?_⟩
   simp at e;simp[a];rw[ak fS];simp[e]
def Bw(v:a8)(a:Nat)(b:Int)(q:IntKind.i64.wrap (b -1)=a)(p:∀x∈v.an,∀n S,∃r:Int,DF F W 91 [.A x.aq,.I V n,.I V a] S=J (.I V r,S)/\(0<=r->x.depth<=a))(S:G)(m:Nat)(e:v.an.length=m)(B:m<9223372036854775808):∀d i,i+d=m->∀n:Int,∃r:Int,
 DC F W (.L rK) ⟨[(1,.I V n),(2,.I V b),(3,.P S.length 0),(7,.I V (i:Nat))],[],S.length⟩ (S++[.M v.aq [] O])=J (.E 0,⟨[(1,.I V r)],[],S.length⟩,S++[.M v.aq [] O])/\(0<=r->0<=n/\∀x∈v.an.drop i,x.depth<=a):=by
 intro d;induction d with
 |zero=>
  intro i s n;rw[av,bf iJ];have A:v.an.drop i=[]:=iy D;exact⟨n,by simp[(D:¬i<m),e],λh=>⟨h,by grind⟩⟩
 |succ d y=>
  intro i s n;have g:i<m:=D;rw[av,bf iJ];by_cases c:0<=n;rotate_left;·exact⟨n,by simp[g,e,c],λh=>absurd h c⟩
  have⟨x,w,f⟩:=aQ (l:=v.an) (i:=i) D;have⟨r,k,u⟩:=p x (fH w) n (S++[.M v.aq [] O]);have⟨z,j,t⟩:=y (i+1) D r;have o:=bj (i:=i) D;simp at j o;rw[<-q]at k;refine⟨z, ?_,λh=>⟨c, ?_⟩⟩
  ·simp[g,e,c,f,k]
   rw[ak iJ];simp[o,j]
  simp_all[aZ]
def Bx(v:a8):v.Wf->∀(a:Nat),a<1000000->∀(n:Int)(S:G),∃r:Int,DF F W 91 [.A v.aq,.I V n,.I V (a:Nat)] S=J (.I V r,S)/\(0<=r->v.depth<=a):=by
 induction v using a8.ind with
 |h v i=>
  intro d a k n S;rw[Py alC];cases a with
  |zero=>simp
  |succ a=>
  have b:¬((a:Int)+1=0):=D;by_cases j:v.s.length>400
  ·have f:(400:Int)<v.s.length:=D
   exact⟨-1,by simp[b,f],λh=>absurd h y9⟩
  have⟨r,c,g⟩:=Bw v a ((a+1:Nat):Int) (by grind [wrap_i64]) (λx e n S=>i x e (d.all x e) a D n S) S v.an.length rfl d.one.an v.an.length 0 D (IntKind.i64.wrap (IntKind.i64.wrap (IntKind.i64.wrap (n -1) -v.aX.length) -v.e_.length));simp at c;refine⟨r, ?_,λh=>?_⟩
  ·simp[b,(D:¬(400:Int)<v.s.length)]
   rw[ak iJ];simp[c]
  ·rw[a8.jK]
   simp_all[a8.iK]
def jL(v:a8)(c:v.Wf)(S:G):∃r,DF F W 46 [.A v.aq] S=J (.B r,S)/\(r=O->v.depth<=12):=by rw[fI alD];have⟨r,a,b⟩:=Bx v c 12 D 300 (S++[.M v.aq [] O]);simp at a;exact⟨aN (r<0),by simp[a],λh=>b (by simp_all)⟩
def Ai(v:bM)(a n:Int)(S:G)(m:Nat)(c:v.ax.length=m)(p:m<9223372036854775808):∀d i,i+d=m->
 DC F W (.L nX) ⟨[(1,.I V n),(2,.I V a),(3,.P S.length 0),(7,.I V (i:Nat))],[],S.length⟩ (S++[.M v.aq [] O])=J (.E 0,⟨[(1,.I V n),(2,.I V a),(3,.P S.length 0)],[],S.length⟩,S++[.M v.aq [] O])\/
 DC F W (.L nX) ⟨[(1,.I V n),(2,.I V a),(3,.P S.length 0),(7,.I V (i:Nat))],[],S.length⟩ (S++[.M v.aq [] O])=J (.R,⟨[(6,.I V (-1))],[],S.length⟩,S++[.M v.aq [] O]):=by
 intro d;induction d with
 |zero=>
  intro i k;rw[av,bf gy];left;simp[(D:¬i<m),c]
 |succ d o=>
  intro i k;have f:i<m:=D;rw[av,bf gy];by_cases g:0<=n;rotate_left
  ·left
   simp[f,c,g]
  have⟨x,r,b⟩:=aQ (l:=v.ax) (i:=i) D;have h:=o (i+1) D;have j:=bj (i:=i) D;simp at h j;by_cases q:x.length>100
  ·right
   have e:(100:Int)<x.length:=D;simp[f,c,g,b,e]
  ·have e:¬(100:Int)<x.length:=D
   simp[f,c,g,b,e];simp[ak gy,j];exact h
def Aj(v:bM)(a:Nat)(b:Int)(q:IntKind.i64.wrap (b -1)=a)(p:∀x∈v.an,∀n S,∃r:Int,DF F W 130 [.A x.aq,.I V n,.I V a] S=J (.I V r,S)/\(0<=r->x.depth<=a))(S:G)(m:Nat)(e:v.an.length=m)(B:m<9223372036854775808):∀d i,i+d=m->∀n:Int,∃r:Int,
 DC F W (.L rL) ⟨[(1,.I V n),(2,.I V b),(3,.P S.length 0),(8,.I V (i:Nat))],[],S.length⟩ (S++[.M v.aq [] O])=J (.E 2,⟨[(1,.I V r)],[],S.length⟩,S++[.M v.aq [] O])/\(0<=r->0<=n/\∀x∈v.an.drop i,x.depth<=a):=by
 intro d;induction d with
 |zero=>
  intro i s n;rw[av,bf iL];have A:v.an.drop i=[]:=iy D;exact⟨n,by simp[(D:¬i<m),e],λh=>⟨h,by grind⟩⟩
 |succ d y=>
  intro i s n;have g:i<m:=D;rw[av,bf iL];by_cases c:0<=n;rotate_left;·exact⟨n,by simp[g,e,c],λh=>absurd h c⟩
  have⟨x,w,f⟩:=aQ (l:=v.an) (i:=i) D;have⟨r,k,u⟩:=p x (fH w) n (S++[.M v.aq [] O]);have⟨z,j,t⟩:=y (i+1) D r;have o:=bj (i:=i) D;simp at j o;rw[<-q]at k;refine⟨z, ?_,λh=>⟨c, ?_⟩⟩
  ·simp[g,e,c,f,k]
   rw[ak iL];simp[o,j]
  simp_all[aZ]
def By(v:bM):v.Wf->∀(a:Nat),a<1000000->∀(n:Int)(S:G),∃r:Int,DF F W 130 [.A v.aq,.I V n,.I V (a:Nat)] S=J (.I V r,S)/\(0<=r->v.depth<=a):=by
 induction v using bM.ind with
 |h v j=>
  intro b a k n S;rw[Py agN];cases a with
  |zero=>simp
  |succ a=>
  have c:¬((a:Int)+1=0):=D;have d:=Ai v ((a+1:Nat):Int) (IntKind.i64.wrap (IntKind.i64.wrap (n -1) -v.ax.length)) S v.ax.length rfl b.one.ax v.ax.length 0 D;have⟨r,f,i⟩:=Aj v a ((a+1:Nat):Int) (by grind [wrap_i64]) (λx g n S=>j x g (b.all x g) a D n S) S v.an.length rfl b.one.an v.an.length 0 D (IntKind.i64.wrap (IntKind.i64.wrap (n -1) -v.ax.length));simp at f d;rcases d with e|e
  ·refine⟨r, ?_,λh=>?_⟩
   ·simp[c]
    rw[ak gy];simp[e];rw[ak iL];simp[f]
   ·rw[bM.jK]
    simp_all[bM.iK]
  ·refine⟨-1, ?_,λh=>absurd h y9⟩
   simp[c];rw[ak gy];simp[e]
def Ak(v:bM)(c:v.Wf)(S:G):∃r,DF F W 92 [.A v.aq] S=J (.B r,S)/\(r=O->v.depth<=12):=by rw[fI alE];have⟨r,a,b⟩:=By v c 12 D 300 (S++[.M v.aq [] O]);simp at a;exact⟨aN (r<0),by simp[a],λh=>b (by simp_all)⟩
def Al(v:bF)(n:∀p∈v.aT,p.x.Wf/\p.y.Wf)(a:Int)(S:G)(m:Nat)(g:v.aT.length=m)(A:m<9223372036854775808):∀d i,i+d=m->
 (DC F W (.L nY) ⟨[(1,.I V a),(2,.P S.length 0),(5,.I V (i:Nat))],[],S.length⟩ (S++[.M v.aq [] O])=J (.E 0,⟨[(1,.I V a),(2,.P S.length 0)],[],S.length⟩,S++[.M v.aq [] O])/\∀p∈v.aT.drop i,p.x.depth<=12/\p.y.depth<=12)\/
 DC F W (.L nY) ⟨[(1,.I V a),(2,.P S.length 0),(5,.I V (i:Nat))],[],S.length⟩ (S++[.M v.aq [] O])=J (.R,⟨[(4,.B O)],[],S.length⟩,S++[.M v.aq [] O]):=by
 intro d;induction d with
 |zero=>
  intro i s;rw[av,bf ep];have z:v.aT.drop i=[]:=iy D;left;exact⟨by simp[(D:¬i<m),g],by grind⟩
 |succ d t=>
  intro i s;have h:i<m:=D;rw[av,bf ep];have⟨x,o,c⟩:=aQ (l:=v.aT) (i:=i) D;have⟨u,b,q⟩:=jL x.x (n x (fH o)).1 (S++[.M v.aq [] O]);have⟨w,f,r⟩:=jL x.y (n x (fH o)).2 (S++[.M v.aq [] O]);have j:=bj (i:=i) D;simp at j;cases u;rotate_left
  ·right
   simp[gA,h,g,c,b]
  cases w;rotate_left
  ·right
   simp[gA,h,g,c,b,f]
  rcases(t (i+1) D)with⟨k,y⟩|e
  ·left
   simp at k;refine⟨?_, ?_⟩
   ·simp[gA,h,g,c,b,f]
    simp[ak ep,j];exact k
   simp_all[aZ]
  ·right
   simp at e;simp[gA,h,g,c,b,f];simp[ak ep,j];exact e
def Am(v:bF)(a:Nat)(b:Int)(o:IntKind.i64.wrap (b -1)=a)(n:∀x∈v.bT,∀S,∃r,DF F W 47 [.A x.aq,.I V a] S=J (.B r,S)/\(r=Y->x.depth<=a/\x.Deep))(S:G)(m:Nat)(f:v.bT.length=m)(y:m<9223372036854775808):∀d i,i+d=m->
 (DC F W (.L nZ) ⟨[(1,.I V b),(2,.P S.length 0),(6,.I V (i:Nat))],[],S.length⟩ (S++[.M v.aq [] O])=J (.E 2,⟨[],[],S.length⟩,S++[.M v.aq [] O])/\∀x∈v.bT.drop i,x.depth<=a/\x.Deep)\/
 DC F W (.L nZ) ⟨[(1,.I V b),(2,.P S.length 0),(6,.I V (i:Nat))],[],S.length⟩ (S++[.M v.aq [] O])=J (.R,⟨[(4,.B O)],[],S.length⟩,S++[.M v.aq [] O]):=by
 intro d;induction d with
 |zero=>
  intro i p;rw[av,bf fh];have w:v.bT.drop i=[]:=iy D;left;exact⟨by simp[(D:¬i<m),f],by grind⟩
 |succ d t=>
  intro i p;have h:i<m:=D;rw[av,bf fh];have⟨x,s,c⟩:=aQ (l:=v.bT) (i:=i) D;have⟨r,g,q⟩:=n x (fH s) (S++[.M v.aq [] O]);rw[<-o]at g;have j:=bj (i:=i) D;simp at j;cases r
  ·right
   simp[h,f,c,g,bw]
  rcases(t (i+1) D)with⟨k,u⟩|e
  ·left
   simp at k;refine⟨?_, ?_⟩
   ·simp[h,f,c,g,bw]
    simp[ak fh,j];exact k
   simp_all[aZ]
  ·right
   simp at e;simp[h,f,c,g,bw];simp[ak fh,j];exact e
def Bz(v:bF):v.Wf->∀(a:Nat),a<1000000->∀(S:G),∃r,DF F W 47 [.A v.aq,.I V (a:Nat)] S=J (.B r,S)/\(r=Y->v.depth<=a/\v.Deep):=by
 induction v using bF.ind with
 |h v y=>
  intro m a E S;rw[jE alF];have g:∀{P:Prop},(O=Y->P):=λh=>by cases h
  cases a with
  |zero=>exact⟨O,by simp[cH],g⟩
  |succ a=>
  have d:¬((a:Int)+1=0):=D;have o:=Al v m.one.pair ((a+1:Nat):Int) S v.aT.length rfl m.one.aT v.aT.length 0 D;have q:=Am v a ((a+1:Nat):Int) (by grind [wrap_i64]) (λx n S=>y x n (m.all x n) a D S) S v.bT.length rfl m.one.bT v.bT.length 0 D;have⟨z,b,s⟩:=Ak v.type m.one.type (S++[.M v.aq [] O]);have⟨A,c,t⟩:=jL v.base m.one.base (S++[.M v.aq [] O]);have⟨B,j,u⟩:=jL v.back m.one.back (S++[.M v.aq [] O]);simp only[qf]at o q;by_cases f:(2:Int)<v.bT.length;·exact⟨O,by simp[cH,d,f],g⟩
  by_cases i:(20:Int)<v.aT.length;·exact⟨O,by simp[cH,d,f,i],g⟩
  by_cases k:(100:Int)<v.a.length;·exact⟨O,by simp[cH,d,f,i,k],g⟩
  by_cases l:(100:Int)<v.b.length;·exact⟨O,by simp[cH,d,f,i,k,l],g⟩
  cases z;rotate_left;·exact⟨O,by simp[cH,d,f,i,k,l,b],g⟩
  cases A;rotate_left;·exact⟨O,by simp[cH,d,f,i,k,l,b,c],g⟩
  cases B;rotate_left;·exact⟨O,by simp[cH,d,f,i,k,l,b,c,j],g⟩
  have L:=s rfl;have M:=t rfl;have N:=u rfl;rcases o with⟨e,C⟩|e
  ·rcases q with⟨e',w⟩|e'
   ·refine⟨Y, ?_,λ_=>⟨?_,.mk v ⟨by omega,by omega,by omega,λp I=>⟨by grind,by grind⟩⟩ λx n=>(w x n).2⟩⟩
    ·simp at e e'
     simp[cH,d,f,i,k,l,b,c,j];rw[ak ep];simp[e];rw[ak fh];simp[e']
    ·rw[bF.jK]
     simp_all[bF.iK]
   ·refine⟨O, ?_,g⟩
    simp at e e';simp[cH,d,f,i,k,l,b,c,j];rw[ak ep];simp[e];rw[ak fh];simp[e']
  ·refine⟨O, ?_,g⟩
   simp at e;simp[cH,d,f,i,k,l,b,c,j];rw[ak ep];simp[e]
def An(v:bF)(c:v.Wf)(S:G):∃r,DF F W 15 [.A v.aq] S=J (.B r,S)/\(r=O->v.depth<=8/\v.Deep):=by rw[fI alG];have⟨r,a,b⟩:=Bz v c 8 D (S++[.M v.aq [] O]);simp at a;exact⟨!r,by simp[a,bw],λh=>b (by grind)⟩
def Ao(v:l9)(d:v.Wf)(S:G):∃r,DF F W 14 [.A v.aq] S=J (.B r,S)/\(r=O->v.value.depth<=12):=by
 rw[fI alH];have⟨e,a⟩:=Ah v.eJ d.YN (S++[.M v.aq [] O]);have⟨f,c,b⟩:=jL v.value d.value (S++[.M v.aq [] O]);cases e;·exact⟨f,by simp[a,c],b⟩
 ·exact⟨Y,by simp[a],λh=>by cases h⟩
def l9.Wf.cO{o:l9}(h:o.Wf):o.fc:=⟨h.YN,a8.Wf.cO _ h.value⟩
def r9:l9:=⟨0,[],0,0,mD⟩
def jh:bF:=.mk 0 [] [] (.mk 0 [] []) mD mD [] []
def gP:r9.fc:=⟨by decide,gJ⟩
def fJ:jh.fc:=.mk _ qa gJ gJ y9 y9 (by nofun) (by nofun)
def kG:cJ (.A ag)=.A r9.aq:=by rfl
def kH(S:G):b7 S (.A ag)=J (.A ag):=rfl
def kJ(S:G):ca S (.A ag)=S:=rfl
def hE(S S':G):bC S S' (.A ag)=S':=rfl
def kK:cJ (.A ad)=.A jh.aq:=by rfl
def kL(S:G):b7 S (.A ad)=J (.A ad):=rfl
def kM(S:G):ca S (.A ad)=S:=rfl
def hH(S S':G):bC S S' (.A ad)=S':=rfl
def ru(n:Nat):UInt8:=if n<10 then dt (48+n)else dt (87+n)
def dI(l:K):K:=l.flatMap λc=>[ru (c.toNat/16),ru (c.toNat %16)]
def kA:∀l:K,(dI l).length=2*l.length
 |[]=>rfl
 |c::l=>by have:=kA l;simp only[dI,vM,jf,jI,nI]at this⊢;omega
def t_(c:UInt8):Prop:=c.toNat=45\/(48<=c.toNat/\c.toNat<=57)\/(97<=c.toNat/\c.toNat<=122)
def Kl(n:Nat)(h:n<16):t_ (ru n):=by
 have a:n=0\/n=1\/n=2\/n=3\/n=4\/n=5\/n=6\/n=7\/n=8\/n=9\/n=10\/n=11\/n=12\/n=13\/n=14\/n=15:=by omega
 rcases a with rfl|rfl|rfl|rfl|rfl|rfl|rfl|rfl|rfl|rfl|rfl|rfl|rfl|rfl|rfl|rfl<;>(unfold t_;decide)
def Bs:∀(l:K),∀c∈dI l,t_ c
 |[],c,h=>by simp[dI]at h
 |x::l,c,h=>by
  simp only[dI,vM,BM,yC,J1,or_false]at h;have a:=x.toNat_lt;rcases h with(rfl|rfl)|h;·exact Kl _ (by omega)
  ·exact Kl _ (by omega)
  ·exact Bs l c h
def Km{n:Nat}(h:n<10):t_ (Lt n):=by
 have a:n=0\/n=1\/n=2\/n=3\/n=4\/n=5\/n=6\/n=7\/n=8\/n=9:=by omega
 rcases a with rfl|rfl|rfl|rfl|rfl|rfl|rfl|rfl|rfl|rfl<;>(unfold t_;decide)
def Ou:∀(n:Nat),∀c∈dec n,t_ c:=by
 intro n;induction n using Nat.strongRecOn with
 |ind n b=>
  intro c h;unfold dec at h;split at h
  ·rename_i a
   rw[sN.1 h];exact Km a
  ·rw[BM,sN]at h
   rcases h with h|rfl;·exact b (n/10) (by omega) c h
   ·exact Km (Jq _ (by omega))
def Ex(n:Int):∀c∈a7 n,t_ c:=by
 intro c h;unfold a7 at h;split at h
 ·rcases yC.1 h with rfl|h
  ·exact .inl rfl
  ·exact Ou _ c h
 ·exact Ou _ c h
def cm(k:Int):K:=
 if k=1 then[119,114,105,116,101]else if k=2 then[112,117,98,108,105,115,104]else if k=3 then[115,121,110,99]else if k=4 then[100,101,108,105,118,101,114]else
 if k=5 then[108,111,115,101]else if k=6 then[99,111,112,121]else if k=7 then[115,119,97,112]else if k=8 then[105,110,106,101,99,116]else if k=9 then[114,101,97,100]else[]
def qm{k:Int}(h:1<=k)(a:k<=9):k=1\/k=2\/k=3\/k=4\/k=5\/k=6\/k=7\/k=8\/k=9:=by omega
def Qd(k:Int):∀c∈cm k,t_ c:=by
 intro c h;unfold cm at h;repeat' split at h
 all_goals
  simp only[yC,J1,or_false]at h;try rcases h with rfl|rfl|rfl|rfl|rfl|rfl|rfl<;>(unfold t_;decide)
  try rcases h with rfl|rfl|rfl|rfl|rfl|rfl<;>(unfold t_;decide)
  try rcases h with rfl|rfl|rfl|rfl|rfl<;>(unfold t_;decide)
  try rcases h with rfl|rfl|rfl|rfl<;>(unfold t_;decide)
def cZ(k:Int):Bool:=aN (k=3)||aN (k=7)||aN (k=8)
def c7(k:Int):Bool:=aN (k=1)||aN (k=2)||aN (k=9)
def aB.ax(a:aB):List K:=
 cm a.ae::a7 a.fst::((if cZ a.ae=Y then[a7 a.snd]else[])++((if c7 a.ae=Y then[a7 a.b_]else[])++
  (if a.ae=1 then[dI (jW a.op)]else if a.ae=2 then[dI a.bU.bytes]else if a.ae=8 then[if a.raw=[]then[45]else dI a.raw]else[])))
def aB.line(a:aB):K:=fE [32] a.ax
noncomputable def aB.cR(a:aB):Bool:=
 (cZ a.ae||aN (a.snd=0))&&((c7 a.ae||aN (a.b_=0))&&((aN (a.ae=1)||same a.op r9)&&((aN (a.ae=2)||same a.bU jh)&&(aN (a.ae=8)||aN (a.raw=[])))))
noncomputable def aB.code(a:aB):Nat:=
 if¬(1<=a.ae/\a.ae<=9)then 5 else if¬(a.cR=Y/\a.raw.length<=4096)then 1 else
 if a.ae=1 then(if De a.op=Y then(if 4096<(jW a.op).length then 3 else 0)else 1)else
 if a.ae=2 then(if a.bU.ba 5=Y then(if 4096<a.bU.bytes.length then 3 else 0)else 1)else 0
def H9{w:K}(h:∀c∈w,t_ c)(x:UInt8)(b:x=32\/x=10):x∉w:=λa=>by have:=h x a;rcases b with rfl|rfl<;>(unfold t_ at this;revert this;decide)
def aB.H_(a:aB):∀w∈a.ax,∀c∈w,t_ c:=by
 intro w h;have b:∀c∈[(45:UInt8)],t_ c:=λc d=>by rw[sN.1 d];exact .inl rfl
 unfold aB.ax at h;simp only[yC,BM]at h;rcases h with rfl|rfl|h|h|h;·exact Qd _
 ·exact Ex _
 ·split at h
  ·rw[sN.1 h];exact Ex _
  ·simp at h
 ·split at h
  ·rw[sN.1 h];exact Ex _
  ·simp at h
 ·split at h
  ·rw[sN.1 h];exact Bs _
  ·split at h
   ·rw[sN.1 h];exact Bs _
   ·split at h
    ·rw[sN.1 h]
     split;·exact b
     ·exact Bs _
    ·simp at h
def aB.lJ(a:aB):BZ 32 a.line=a.ax:=
 Ot (by simp[aB.ax]) λw b=>H9 (a.H_ w b) 32 (.inl rfl)
structure aB.fc(a:aB):Prop where
 op:a.op.fc
 bU:a.bU.fc
def aF(k:Int):bN:=[.S (cm k),.B (cZ k),.B (c7 k),.B (aN (k=1)),.B (aN (k=2)),.B (aN (k=8))]
def aM:bN:=aF 0++(aF 1++(aF 2++(aF 3++(aF 4++(aF 5++(aF 6++(aF 7++(aF 8++aF 9))))))))
def fo(k:Int):mC (aF k):=by simp[aF]
def fq:mC aM:=by simp[aM,fo]
def nO(k:Nat)(h:k<10):f_ (.A 6) aM (k*6)=J (.A (aF k)):=by
 have a:k=0\/k=1\/k=2\/k=3\/k=4\/k=5\/k=6\/k=7\/k=8\/k=9:=by omega
 rcases a with rfl|rfl|rfl|rfl|rfl|rfl|rfl|rfl|rfl|rfl<;>rfl
set_option maxRecDepth 20000 in
def dX(S:G):DF F W 35 [] S=J (.A aM,S):=by have e:aM.length=60:=rfl;have q:cr.length=60:=rfl;have g:bE aU [(0,1,.S [119,114,105,116,101]),(2,1,.B Y),(3,1,.B Y)]=J (aF 1):=rfl;have h:bE aU [(0,1,.S [112,117,98,108,105,115,104]),(2,1,.B Y),(4,1,.B Y)]=J (aF 2):=rfl;have i:bE aU [(0,1,.S [115,121,110,99]),(1,1,.B Y)]=J (aF 3):=rfl;have j:bE aU [(0,1,.S [100,101,108,105,118,101,114])]=J (aF 4):=rfl;have k:bE aU [(0,1,.S [108,111,115,101])]=J (aF 5):=rfl;have l:bE aU [(0,1,.S [99,111,112,121])]=J (aF 6):=rfl;have m:bE aU [(0,1,.S [115,119,97,112]),(1,1,.B Y)]=J (aF 7):=rfl;have n:bE aU [(0,1,.S [105,110,106,101,99,116]),(1,1,.B Y),(5,1,.B Y)]=J (aF 8):=rfl;have o:bE aU [(0,1,.S [114,101,97,100]),(2,1,.B Y)]=J (aF 9):=rfl;have p:bE cr [(6,6,.A (aF 1)),(12,6,.A (aF 2)),(18,6,.A (aF 3)),(24,6,.A (aF 4)),(30,6,.A (aF 5)),(36,6,.A (aF 6)),(42,6,.A (aF 7)),(48,6,.A (aF 8)),(54,6,.A (aF 9))]=J aM:=rfl;have d:=fq;have r:=cG e d;generalize aF 1=s,aF 2=t,aF 3=u,aF 4=v,aF 5=w,aF 6=x,aF 7=y,aF 8=z,aF 9=A,aM=a at*;have f:(AV.A a).cells=a:=rfl;rw[rn0 al7];generalize cr=c,aU=b at*;simp-implicitDefEqProofs [g,h,i,j,k,l,m,n,o,p,f,e,q,d,r,aY, -AV.cells, -fL]
def aB.bare(a:aB):aB:=⟨a.ae,a.fst,if cZ a.ae then a.snd else 0,if c7 a.ae then a.b_ else 0,if a.ae=1 then a.op else r9,if a.ae=2 then a.bU else jh,if a.ae=8 then a.raw else[]⟩
def aB.gR(a:aB):same a a.bare=a.cR:=by rw[aB.iQ];unfold aB.cR aB.bare;by_cases b:cZ a.ae=Y<;>by_cases c:c7 a.ae=Y<;>by_cases d:a.ae=1<;>by_cases e:a.ae=2<;>by_cases f:a.ae=8<;>simp_all
def aB.akx(a:aB):a.aq=[.I V a.ae,.I V a.fst,.I V a.snd,.I V a.b_]++(a.op.aq++(a.bU.aq++[cq a.raw])):=rfl
def Mc(r:oc)(b:K):Pm (.sl r 1 (fA b))=J (.S b):=by simp[Pm,E_]
def TB(b:K):Pm (cq b)=J (.S b):=by
 cases b with
 |nil=>rfl
 |cons c r=>exact Mc .N (c::r)
def Jc(a b:K)(S:G):DF F W 76 [cq a,cq b] S=J (.B (aN (a=b)),S):=by
 rw[jE ams];have e:(a==b)=aN (a=b):=by rw[wU];simp
 simp[TB,e]
def ki(a b:aB)(k:a.fc)(l:b.fc)(S:G):DF F W 36 [.A a.aq,.A b.aq] S=J (.B (same a b),S):=by
 rw[jE al8,aB.iQ];have h:=Ta a.op b.op k.op l.op;have j:=NQ a.bU b.bU k.bU l.bU;have m:=Jc a.raw b.raw;by_cases c:a.ae=b.ae;rotate_left;·simp[jd,c]
 by_cases d:a.fst=b.fst;rotate_left;·simp[jd,c,d]
 by_cases e:a.snd=b.snd;rotate_left;·simp[jd,c,d,e]
 by_cases f:a.b_=b.b_;rotate_left;·simp[jd,c,d,e,f]
 cases g:same a.op b.op;·simp[jd,c,d,e,f,g,h]
 cases i:same a.bU b.bU;·simp[jd,c,d,e,f,g,i,h,j]
 simp[jd,c,d,e,f,g,i,h,j,m]
def dm(k f s v:Int)(o l:bN)(r:H):bN:=[.I V k,.I V f,.I V s,.I V v]++(o++(l++[r]))
def aB.jk(a:aB):a.aq=dm a.ae a.fst a.snd a.b_ a.op.aq a.bU.aq (cq a.raw):=rfl
def aeS:ah=dm 0 0 0 0 ag ad .ar:=rfl
def gu{k f s v:Int}{o l:bN}{r:H}(b:o.length=10)(a:l.length=20):(dm k f s v o l r).length=35:=by simp[dm,b,a]
def WX(k f s v x:Int)(o l:bN)(r:H):aV (dm k f s v o l r) 2 [.I V x]=dm k f x v o l r:=by rfl
def TC(k f s v x:Int)(o l:bN)(r:H):aV (dm k f s v o l r) 3 [.I V x]=dm k f s x o l r:=by rfl
def RM(k f s v:Int){o o':bN}(l:bN)(r:H)(h:o'.length=o.length):aV (dm k f s v o l r) 4 o'=dm k f s v o' l r:=
 oT (a:=[.I V k,.I V f,.I V s,.I V v]) rfl rfl h
def Kn(k f s v:Int)(o:bN){l l':bN}(r:H)(d:o.length=10)(h:l'.length=l.length):aV (dm k f s v o l r) 14 l'=dm k f s v o l' r:=by have:=oT (l:=dm k f s v o l r) (a:=[.I V k,.I V f,.I V s,.I V v]++o) (b:=l) (c:=[r]) (off:=14) (by simp[dm]) (by simp[d]) h;simpa[dm]using this
def Ov(k f s v:Int)(o l:bN)(r d:H)(g:o.length=10)(e:l.length=20):aV (dm k f s v o l r) 34 [d]=dm k f s v o l d:=by have:=oT (l:=dm k f s v o l r) (a:=[.I V k,.I V f,.I V s,.I V v]++(o++l)) (b:=[r]) (c:=[]) (off:=34) (b':=[d]) (by simp[dm]) (by simp[g,e]) rfl;simpa[dm]using this
def lV(k f s v:Int)(o l:bN)(r:H):(dm k f s v o l r).map bO=dm k f s v (o.map bO) (l.map bO) (bO r):=by simp[dm,bO]
def lW(k f s v:Int)(o l:bN)(r:H)(c:o.map aH=o)(b:l.map aH=l)(d:aH r=r):(dm k f s v o l r).map aH=dm k f s v o l r:=by have a:∀n,aH (.I V n)=.I V n:=λ_=>rfl;simp[dm,a,c,b,d]
def Ia:∀(a b:bN),bQ (a++b)=(bQ a&&bQ b)
 |[],b=>by simp[bQ]
 |x::a,b=>by simp[bQ,Ia a b,Bool.and_assoc]
def kB(k f s v:Int)(o l:bN)(r:H)(b:bQ o=Y)(a:bQ l=Y)(c:aO r=Y):bQ (dm k f s v o l r)=Y:=by simp[dm,Ia,bQ,aO,b,a,c]
def WY(f:db)(C E:bN)(i:C.length=35)(m:bQ C=Y)(o:C.map aH=C)(k:C.map bO=E)(j:bQ E=Y)(S:G)(h:bN)(p:h.length=35):
 f_ (.A 35) C 0=J (.A C)/\(∀X g W,a_ [] S.length (S++[X,g,.M h [] O,W]) 35 (.P (S.length+2) 0) (.A C)=J ([],S++[X,g,.M C [] O,W]))/\(∀d,cd f [] [.A C] S (S++d)=J (.A E,S)):=by
 refine⟨?_,λX g W=>?_,λd=>?_⟩
 ·have:=jQ (l:=C) (a:=[]) (b:=C) (c:=[]) (off:=0) (n:=35) (by simp) rfl i o
  exact this
 ·rw[pA (S:=S) rfl m]
  simp[i,p,aY]
 ·have e:bD (.A C)=.A E:=by rw[<-k];rfl
  simp[kq,e,bI,aP,aC,aO,j]
set_option maxRecDepth 4000 in
def kj(a:aB)(h1:1<=a.ae)(h9:a.ae<=9)(S:G):DF F W 37 [.A a.aq,.A (aF a.ae)] S=J (.A a.bare.aq,S):=by
 have y:ag.length=10:=rfl;have z:ad.length=20:=rfl;have M:bQ ag=Y:=rfl;have L:bQ ad=Y:=rfl;have so:ag.map aH=ag:=rfl;have sl:ad.map aH=ad:=rfl;have n:ag.map bO=r9.aq:=rfl;have m:ad.map bO=jh.aq:=rfl;have A:ah.length=35:=rfl;have E:bE ah [(0,1,.I V a.ae),(1,1,.I V a.fst)]=J (dm a.ae a.fst 0 0 ag ad .ar):=rfl;have L0:=gu (k:=a.ae) (f:=a.fst) (s:=0) (v:=0) (r:=.ar) y z;have N:∀X b c,a_ [] S.length (S++[X,b,c,.M ah [] O]) 35 (.P (S.length+3) 0) (.A (dm a.ae a.fst 0 0 ag ad .ar))=J ([],S++[X,b,c,.M (dm a.ae a.fst 0 0 ag ad .ar) [] O]):=λX b c=>by rw[pA (S:=S) rfl (kB _ _ _ _ _ _ _ M L rfl)];simp[L0,A,aY]
 have e:∀X b c C C' I x,aV C I [.I V x]=C'->I+1<=C.length->a_ [] S.length (S++[X,b,c,.M C [] O]) 1 (.P (S.length+3) I) (.I V x)=J ([],S++[X,b,c,.M C' [] O]):=λX b c C C' I x h hl=>by rw[en (mm V x).y_ (cS S [X,b,c,.M C [] O] 3),if_pos ⟨rfl,hl⟩,show(AV.I V x).cells=[.I V x]from rfl,h];simp
 have P:=λX b c=>e X b c _ _ 2 a.snd (WX a.ae a.fst 0 0 a.snd ag ad .ar) (by rw[L0];omega);have U:=λX b c=>e X b c _ _ 3 a.b_ (TC a.ae a.fst 0 0 a.b_ ag ad .ar) (by rw[L0];omega);have LV:=gu (k:=a.ae) (f:=a.fst) (s:=0) (v:=a.b_) (r:=.ar) y z;have LB:=gu (k:=a.ae) (f:=a.fst) (s:=a.snd) (v:=0) (r:=.ar) y z;have lo:a.op.aq.length=10:=by simp
 have ll:a.bU.aq.length=20:=by simp
 have R:∀X b c,a_ [] S.length (S++[X,b,c,.M (dm a.ae a.fst 0 a.b_ ag ad .ar) [] O]) 10 (.P (S.length+3) 4) (.A a.op.aq)=J ([],S++[X,b,c,.M (dm a.ae a.fst 0 a.b_ a.op.aq ad .ar) [] O]):=λX b c=>by rw[pA (S:=S) rfl (l9.dB _).aO];simp[LV,RM,y]
 have Q:∀X b c,a_ [] S.length (S++[X,b,c,.M (dm a.ae a.fst 0 a.b_ ag ad .ar) [] O]) 20 (.P (S.length+3) 14) (.A a.bU.aq)=J ([],S++[X,b,c,.M (dm a.ae a.fst 0 a.b_ ag a.bU.aq .ar) [] O]):=λX b c=>by rw[pA (S:=S) rfl (bF.dB _).aO];simp[LV,Kn,y,z]
 have T:∀X b c,a_ [] S.length (S++[X,b,c,.M (dm a.ae a.fst a.snd 0 ag ad .ar) [] O]) 1 (.P (S.length+3) 34) (cq a.raw)=J ([],S++[X,b,c,.M (dm a.ae a.fst a.snd 0 ag ad (cq a.raw)) [] O]):=λX b c=>by
  have hc:(cq a.raw).cells=[cq a.raw]:=by cases a.raw<;>rfl
  rw[en (va a.raw).y_ (cS S [X,b,c,.M _ [] O] 3),hc,if_pos ⟨rfl,by rw[LB];omega⟩,Ov _ _ _ _ _ _ _ _ y z];simp
 have i:a.op.aq.map bO=a.op.aq:=(l9.dB a.op).jg;have g:a.bU.aq.map bO=a.bU.aq:=(bF.dB a.bU).jg;have xO:a.op.aq.map aH=a.op.aq:=(l9.dB a.op).ml;have xL:a.bU.aq.map aH=a.bU.aq:=(bF.dB a.bU).ml;have p:bO .ar=cq []:=rfl;have j:bO (cq a.raw)=cq a.raw:=by cases a.raw<;>rfl
 have xR:aH (cq a.raw)=cq a.raw:=by cases a.raw<;>rfl
 have pR:aO (cq a.raw)=Y:=(va a.raw).y_.aO;have B:=(aB.dB a.bare).aO;have d:∀s v o l r,o.length=10->l.length=20->bQ o=Y->bQ l=Y->aO r=Y->o.map aH=o->l.map aH=l->aH r=r->dm a.ae a.fst s v (o.map bO) (l.map bO) (bO r)=a.bare.aq->_:=
  λs v o l r h1 h2 h3 h4 h5 h6 h7 h8 h9=>WY 37 (dm a.ae a.fst s v o l r) a.bare.aq (gu h1 h2) (kB _ _ _ _ _ _ _ h3 h4 h5) (lW _ _ _ _ _ _ _ h6 h7 h8) ((lV _ _ _ _ _ _ _).trans h9) B S ah A
 rcases qm h1 h9 with h|h|h|h|h|h|h|h|h
 ·have q:aF a.ae=aF 1:=by rw[h]
  have⟨t,u,w⟩:=d 0 a.b_ a.op.aq ad .ar lo z (l9.dB _).aO L rfl xO sl rfl (by simp only[n,m,i,g,p,j,aB.jk,aB.bare,h];rfl);rw[q];clear d e n m i g p j B;rw[jE LA];simp-implicitDefEqProofs [aF,cZ,c7,cm,E,N,P,U,R,Q,T,t,u,w,A]
 ·have q:aF a.ae=aF 2:=by rw[h]
  have⟨t,u,w⟩:=d 0 a.b_ ag a.bU.aq .ar y ll M (bF.dB _).aO rfl so xL rfl (by simp only[n,m,i,g,p,j,aB.jk,aB.bare,h];rfl);rw[q];clear d e n m i g p j B;rw[jE LA];simp-implicitDefEqProofs [aF,cZ,c7,cm,E,N,P,U,R,Q,T,t,u,w,A]
 ·have q:aF a.ae=aF 3:=by rw[h]
  have⟨t,u,w⟩:=d a.snd 0 ag ad .ar y z M L rfl so sl rfl (by simp only[n,m,i,g,p,j,aB.jk,aB.bare,h];rfl);rw[q];clear d e n m i g p j B;rw[jE LA];simp-implicitDefEqProofs [aF,cZ,c7,cm,E,N,P,U,R,Q,T,t,u,w,A]
 ·have q:aF a.ae=aF 4:=by rw[h]
  have⟨t,u,w⟩:=d 0 0 ag ad .ar y z M L rfl so sl rfl (by simp only[n,m,i,g,p,j,aB.jk,aB.bare,h];rfl);rw[q];clear d e n m i g p j B;rw[jE LA];simp-implicitDefEqProofs [aF,cZ,c7,cm,E,N,P,U,R,Q,T,t,u,w,A]
 ·have q:aF a.ae=aF 5:=by rw[h]
  have⟨t,u,w⟩:=d 0 0 ag ad .ar y z M L rfl so sl rfl (by simp only[n,m,i,g,p,j,aB.jk,aB.bare,h];rfl);rw[q];clear d e n m i g p j B;rw[jE LA];simp-implicitDefEqProofs [aF,cZ,c7,cm,E,N,P,U,R,Q,T,t,u,w,A]
 ·have q:aF a.ae=aF 6:=by rw[h]
  have⟨t,u,w⟩:=d 0 0 ag ad .ar y z M L rfl so sl rfl (by simp only[n,m,i,g,p,j,aB.jk,aB.bare,h];rfl);rw[q];clear d e n m i g p j B;rw[jE LA];simp-implicitDefEqProofs [aF,cZ,c7,cm,E,N,P,U,R,Q,T,t,u,w,A]
 ·have q:aF a.ae=aF 7:=by rw[h]
  have⟨t,u,w⟩:=d a.snd 0 ag ad .ar y z M L rfl so sl rfl (by simp only[n,m,i,g,p,j,aB.jk,aB.bare,h];rfl);rw[q];clear d e n m i g p j B;rw[jE LA];simp-implicitDefEqProofs [aF,cZ,c7,cm,E,N,P,U,R,Q,T,t,u,w,A]
 ·have q:aF a.ae=aF 8:=by rw[h]
  have⟨t,u,w⟩:=d a.snd 0 ag ad (cq a.raw) y z M L pR so sl xR (by simp only[n,m,i,g,p,j,aB.jk,aB.bare,h];rfl);rw[q];clear d e n m i g p j B;rw[jE LA];simp-implicitDefEqProofs [aF,cZ,c7,cm,E,N,P,U,R,Q,T,t,u,w,A]
 ·have q:aF a.ae=aF 9:=by rw[h]
  have⟨t,u,w⟩:=d 0 a.b_ ag ad .ar y z M L rfl so sl rfl (by simp only[n,m,i,g,p,j,aB.jk,aB.bare,h];rfl);rw[q];clear d e n m i g p j B;rw[jE LA];simp-implicitDefEqProofs [aF,cZ,c7,cm,E,N,P,U,R,Q,T,t,u,w,A]
def qW:∀(m n:Nat)(S:G),n<m->n<18446744073709551616->∃r,F0 1 r (fA (cB n))/\aC r=Y/\DF F W 57 [.I bm (n:Int)] S=J (r,S)
 |0,n,S,h,_=>by omega
 |m+1,n,S,h,hn=>by
  rw[fI ami];by_cases A:n<128
  ·refine⟨.sl .X 1 [[.I .u8 (n:Int)]],.inr (.inl ?_),rfl, ?_⟩
   ·grind [LX,UInt8.toNat_ofNat',fA,cg]
   ·have a:((n:Int)<128)=True:=eq_true D
    have w:gh .u8 (n:Int)=(n:Int):=by show(n:Int)%256=_;omega
    simp[a,w,bI,bD,aP,aC,dy,bQ,aO]
  ·have⟨R,j,P,k⟩:=qW m (n/128) S D D
   have⟨e,t,f,l⟩:=j.take [];have⟨z,s,u⟩:=l.elems S;have C:cY 1 (.sl .X 1 [[cg (dt (n %128+128))]]) ([]++t) [[cg (dt (n %128+128))]]:=.inr (.inl rfl);have B:=fg (n:=n/128) D;have⟨Q,T,d,b⟩:=C.acX (xs:=fA (cB (n/128))) (x:=e) (S:=S) (by simp;omega) ⟨z,s,u⟩;have⟨r,U,g,o,i⟩:=b.res (ez (dt (n %128+128)::cB (n/128)));refine⟨r,by rw[Rs A];exact o,i, ?_⟩;have a:((n:Int)<128)=False:=eq_false D;have v:((n:Int).tmod 128)=((n %128:Nat):Int):=by rfl
   have y:((n:Int).tdiv 128)=((n/128:Nat):Int):=by rfl
   have L:gh .u8 ((n %128:Nat):Int)=((n %128:Nat):Int):=by show((n %128:Nat):Int)%256=_;omega
   have M:gh .u8 (((n %128:Nat):Int)+128)=(((dt (n %128+128)).toNat:Nat):Int):=by rfl
   have N:gh bm ((n/128:Nat):Int)=((n/128:Nat):Int):=by show((n/128:Nat):Int)%2^64=_;omega
   have I:=b.nt;rw[b.nr]at g;have E:=b.nr;unfold cg at d;generalize n/128=q,dt (n %128+128)=c,n %128=p at*;simp at f d;simp[a,v,y,L,M,N,k,f,d,I,E,g,i]
   done
def L3(S:G)(b:K):∃z,cI S (cq b)=J (z,fA b)/\(fA b≠[]->z=1):=⟨1,by cases b<;>rfl,λ_=>rfl⟩
def Oa(b:K)(S:G)(o:b.length+10<=1073741824):∃r,F0 1 r (fA (aR b))/\aC r=Y/\DF F W 61 [cq b] S=J (r,S):=by
 have⟨q,g,m,h⟩:=qW (b.length+1) b.length S D D;have⟨l,t,c,i⟩:=g.take [];have k:=fg (n:=b.length) D;have⟨p,s,d,a⟩:=i.acX (xs:=fA b) (x:=cq b) (S:=S) (by simp;omega) (L3 S b);rw[<-Lm]at a;have⟨r,u,e,j,f⟩:=a.res (ez _);refine⟨r,j,f, ?_⟩;rw[a.nr]at e;rw[fI amk];simp at c d;simp[(by show(b.length:Int)%2^64=_;omega:IntKind.wrap .u64 (b.length:Int)=(b.length:Int)),h,c,d,a.nt,a.nr,e,f]
 done
def F0.res{r:H}{es:jb}(h:F0 1 r es):∃a t,aK [] r=(a,t)/\cY 1 a t es:=by
 have⟨a,t,b,c⟩:=h.take []
 grind
def Tq(n:Int)(S:G)(C: -9223372036854775808<=n)(E:n<9223372036854775808):∃r,F0 1 r (fA (sQ n))/\aC r=Y/\DF F W 97 [.I V n] S=J (r,S):=by
 by_cases o:n<0
 ·have v:sQ n=cB (2*(-(n+1)).toNat+1):=by unfold sQ;simp_all
  have⟨x,e,s,f⟩:=qW (2*(-(n+1)).toNat+2) (2*(-(n+1)).toNat+1) S D D;have⟨j,t,g,a⟩:=e.res;have⟨r,y,c,u,d⟩:=a.res (ez _);refine⟨r,by simp_all,d, ?_⟩;have i:=a.nt;rw[a.nr]at c;have h:=a.nr;have b:=eq_true o;have z:gh V (n+1)=n+1:=dS D;have A:gh V (-(n+1))= -(n+1):=dS D;have l:gh bm (-(n+1))= -(n+1):=by show(-(n+1))%2^64=_;omega
  have m:gh bm (2* -(n+1))=2* -(n+1):=by show(2* -(n+1))%2^64=_;omega
  have B:gh bm (2* -(n+1)+1)=((2*(-(n+1)).toNat+1:Nat):Int):=by show(2* -(n+1)+1)%2^64=_;omega
  rw[fI ah_];generalize 2*(-(n+1)).toNat+1=k at*;generalize w:n+1=q at*;simp[-cU,wj,D4,zW,bw,b,w,z];generalize I: -q=p at*;simp[-cU,A,l,m,B,f,g,i,h,c,d]
  done
 ·have v:sQ n=cB (2*n.toNat):=by unfold sQ;grind
  have⟨x,e,s,f⟩:=qW (2*n.toNat+1) (2*n.toNat) S D D;have⟨j,t,g,a⟩:=e.res;have⟨r,y,c,u,d⟩:=a.res (ez _);refine⟨r,by simp_all,d, ?_⟩;have i:=a.nt;rw[a.nr]at c;have h:=a.nr;have b:=eq_false o;have l:gh bm n=n:=by show n %2^64=_;omega
  have m:gh bm (2*n)=((2*n.toNat:Nat):Int):=by show(2*n)%2^64=_;omega
  rw[fI ah_];generalize 2*n.toNat=k at*;simp[-cU,wj,D4,zW,bw,b,l,m,f,g,i,h,c,d]
  done
def nF(tF:H)(ab:ch)(s:K):Prop:=cY 1 tF ab (fA s)
def BD(r:H)(s:K):Prop:=F0 1 r (fA s)/\aC r=Y
def nF.call{a:H}{ab:ch}{s b:K}(h:nF a ab s){r:H}(l:BD r b)(m:s.length+b.length<=1073741824)(S:G):
 ∃o' t c d,aK ab r=(o',t)/\eM 1 t S a o'=J (c,d,S)/\nF c d (s++b):=by
 have⟨o',t,f,g⟩:=l.1.take ab;have⟨z,j,k⟩:=g.elems S;have⟨c,d,i,e⟩:=(cY.more h t).acX (xs:=fA b) (x:=o') (S:=S) (by simp;omega) ⟨z,j,k⟩;rw[<-Lm]at e;exact⟨o',ab++t,c,d,f,i,e⟩
def nF.one{a:H}{ab:ch}{s:K}(h:nF a ab s)(c:UInt8)(g:s.length+1<=1073741824)(S:G):
 ∃b d,eM 1 ab S a (.sl .X 1 [[.I .u8 (c.toNat:Int)]])=J (b,d,S)/\nF b d (s++[c]):=by
 have⟨b,d,f,e⟩:=cY.app h (xs:=fA [c]) (by simp[fA]) (by simp_all) .X S;rw[<-Lm]at e;exact⟨b,d,f,e⟩
def nF.new(c:UInt8)(ab:ch):nF (.sl .X 1 [[.I .u8 (c.toNat:Int)]]) ab [c]:=.inr (.inl rfl)
def nF.fin{a:H}{ab:ch}{s:K}(h:nF a ab s):∃r t,bI a=Y/\bD a=a/\aP ab a=(r,t)/\aC r=Y/\BD r s:=by have⟨r,t,b,d,c⟩:=cY.res h (ez s);rw[cY.nr h]at b;exact⟨r,t,cY.nt h,cY.nr h,b,c,d,c⟩
def AP{s:K}(h:s.length<=1073741824):M4 (.S s)=J (.sl .N 1 (fA s)):=by unfold M4;simp only;rw[if_pos h];rfl
def pX(S:G)(es:jb):b7 S (.sl .N 1 es)=J (.sl .N 1 es):=rfl
def pY(S:G)(es:jb):ca S (.sl .N 1 es)=S:=rfl
def kY(S S':G)(es:jb):bC S S' (.sl .N 1 es)=S':=rfl
def sk(n:Nat)(d:n<18446744073709551616)(S:G):∃r,BD r (cB n)/\DF F W 57 [.I bm (n:Int)] S=J (r,S):=by have⟨r,a,b,c⟩:=qW (n+1) n S D d;exact⟨r,⟨a,b⟩,c⟩
def ql(s:K)(S:G)(d:s.length+10<=1073741824):∃r,BD r (aR s)/\DF F W 61 [cq s] S=J (r,S):=by have⟨r,a,b,c⟩:=Oa s S d;exact⟨r,⟨a,b⟩,c⟩
def Y5(n:Int)(S:G)(d: -9223372036854775808<=n)(e:n<9223372036854775808):∃r,BD r (sQ n)/\DF F W 97 [.I V n] S=J (r,S):=by have⟨r,a,b,c⟩:=Tq n S d e;exact⟨r,⟨a,b⟩,c⟩
def Dj{k:Int}(a:0<=k)(b:k<256):gh .u8 k=(((dt k.toNat).toNat:Nat):Int):=by show k %256=_;rw[zT];omega
def Ob(v:a8)(M:v.DI)(h5:v.ae=5->v.an.length=v.aX.length)(h6:v.ae≠5->v.an.length=v.e_.length)(S:G)(nb:Nat)
 (Q:∀x∈v.an,∀S,∃r,BD r x.bytes/\DF F W 58 [.A x.aq] S=J (r,S)):
 ∀d i(c:H)(ab:ch)(s:K),i+d=v.an.length->nF c ab s->s.length+(v.cD i).length+100<=1073741824->
 ∃b aS,nF b aS (s++v.cD i)/\DC F W (.L qN) ⟨[(1,.P S.length 0),(3,c),(4,.I V (i:Nat))],ab,nb⟩ (S++[.M v.aq [] O])=J (.E 1,⟨[(3,b)],aS,nb⟩,S++[.M v.aq [] O]):=by
 have hl:=M.an;intro d;induction d with
 |zero=>
  intro i c ab s T B R;have e3:v.an.drop i=[]:=iy D;have I:v.cD i=[]:=by grind [a8.cD,a8.dF,a8.jH]
  refine⟨c,ab,by simp_all, ?_⟩;simp[av,bf ec,(D:¬i<v.an.length)]
 |succ d N=>
  intro i c ab s T B R;have L:i<v.an.length:=D;have⟨y,U,k⟩:=aQ (l:=v.an) (i:=i) D;have p:=bj (i:=i) D;have⟨ry,m,n⟩:=Q y (fH U) (S++[.M v.aq [] O]);by_cases P:v.ae=5
  ·have⟨a,o,z⟩:=aQ (l:=v.aX) (i:=i) D
   have I:v.cD i=aR a++(y.bytes++v.cD (i+1)):=by unfold a8.cD;simp_all[aZ,a8.dF]
   have X:(aR a).length+(y.bytes.length+(v.cD (i+1)).length)=(v.cD i).length:=by grind
   have la:a.length<=(aR a).length:=by unfold aR;simp
   have⟨ra,f,e⟩:=ql a (S++[.M v.aq [] O]) D;have⟨o1,t1,o2,t2,q,g,t⟩:=B.call f D (S++[.M v.aq [] O]);have⟨o3,t3,C,E,u,h,w⟩:=t.call m (by grind) (S++[.M v.aq [] O]);have⟨b,aS,A,j⟩:=N (i+1) C E (s++aR a++y.bytes) D w (by grind);refine⟨b,aS,by grind, ?_⟩;rw[av,bf ec];simp at p j g h;simp[L,k,P,o,AP (s:=a) D,pX,pY,kY,j9,e,q,g,n,u,h];rw[ak ec];simp[p,j]
  ·have⟨a,o,z⟩:=aQ (l:=v.e_) (i:=i) D
   have hr:=M.id a (fH o);have I:v.cD i=cB a.toNat++(y.bytes++v.cD (i+1)):=by unfold a8.cD;simp_all[aZ,a8.jH]
   have X:(cB a.toNat).length+(y.bytes.length+(v.cD (i+1)).length)=(v.cD i).length:=by grind
   have⟨ra,f,e⟩:=sk a.toNat D (S++[.M v.aq [] O]);rw[(D:((a.toNat:Nat):Int)=a)]at e;have⟨o1,t1,o2,t2,q,g,t⟩:=B.call f D (S++[.M v.aq [] O]);have⟨o3,t3,C,E,u,h,w⟩:=t.call m (by grind) (S++[.M v.aq [] O]);have⟨b,aS,A,j⟩:=N (i+1) C E (s++cB a.toNat++y.bytes) D w (by grind);refine⟨b,aS,by grind, ?_⟩;rw[av,bf ec];simp at p j g h;simp[L,k,P,o,e,q,g,n,u,h];rw[ak ec];simp[p,j]
def oS:∀(d:Nat)(v:a8),v.Wf->v.ba d=Y->d<=5->∀S,∃r,BD r v.bytes/\DF F W 58 [.A v.aq] S=J (r,S):=by
 intro d;induction d with
 |zero=>nofun
 |succ d U=>
  intro v p h hd S;have R:=a8.fP h;have o:=a8.sR (d+1) v p h;have h13:13^(d+1)<=13^5:=Q4 y9 hd;have e13:13^5=371293:=y9;have lb:=v.lr;have kr:=R.ae;have c:=Dj (k:=v.ae) D D;have z:=nF.new (dt v.ae.toNat) [];have E:=Ob v p.one;rw[fI amj];rcases R.ae with k|k|k|k|k|k
  ·have hn:=R.n1 k
   have A:v.bytes=[dt v.ae.toNat]++[dt v.n.toNat]:=by simp_all
   have wn:=Dj (k:=v.n) D D;have⟨q,y,e,f⟩:=z.one (dt v.n.toNat) ck (S++[.M v.aq [] O]);have⟨r,t,i,j,l,m,B⟩:=f.fin;refine⟨r,by simp_all, ?_⟩;have c:gh .u8 1=(((dt v.ae.toNat).toNat:Nat):Int):=by simp_all
   generalize dt v.ae.toNat=u,dt v.n.toNat=w at*;simp[c,wn,k,e,i,j,l,m]
  ·have A:v.bytes=[dt v.ae.toNat]++sQ v.n:=by simp_all
   have X:=Ra p.one.n0 p.one.n1;have⟨M,a,b⟩:=Y5 v.n (S++[.M v.aq [] O]) p.one.n0 p.one.n1;have⟨L,N,q,y,n,e,f⟩:=z.call a (by grind) (S++[.M v.aq [] O]);have⟨r,t,i,j,l,m,B⟩:=f.fin;refine⟨r,by simp_all, ?_⟩;have c:gh .u8 2=(((dt v.ae.toNat).toNat:Nat):Int):=by simp_all
   generalize dt v.ae.toNat=u at*;simp[c,k,b,n,e,i,j,l,m]
  ·have A:v.bytes=[dt v.ae.toNat]++aR v.s:=by simp_all
   have T:=R.s3 k;have X:=iz T D;have P:=AP (s:=v.s) D;have⟨M,a,b⟩:=ql v.s (S++[.M v.aq [] O]) D;have⟨L,N,q,y,n,e,f⟩:=z.call a (by grind) (S++[.M v.aq [] O]);have⟨r,t,i,j,l,m,B⟩:=f.fin;refine⟨r,by simp_all, ?_⟩;have c:gh .u8 3=(((dt v.ae.toNat).toNat:Nat):Int):=by simp_all
   generalize dt v.ae.toNat=u at*;simp[c,k,P,pX,pY,kY,j9,b,n,e,i,j,l,m]
  ·have A:v.bytes=[dt v.ae.toNat]++aR v.s:=by simp_all
   have T:=fR (R.s4 k);have X:=iz T D;have P:=AP (s:=v.s) D;have⟨M,a,b⟩:=ql v.s (S++[.M v.aq [] O]) D;have⟨L,N,q,y,n,e,f⟩:=z.call a (by grind) (S++[.M v.aq [] O]);have⟨r,t,i,j,l,m,B⟩:=f.fin;refine⟨r,by simp_all, ?_⟩;have c:gh .u8 4=(((dt v.ae.toNat).toNat:Nat):Int):=by simp_all
   generalize dt v.ae.toNat=u at*;simp[c,k,P,pX,pY,kY,j9,b,n,e,i,j,l,m]
  ·have h5:=R.k5 k
   have er:v.cD 0=a8.dF v.aX v.an:=by unfold a8.cD;simp_all
   have A:v.bytes=[dt v.ae.toNat]++cB v.an.length++v.cD 0:=by simp_all
   rw[A]at o;simp at o;have wl:gh bm (v.an.length:Int)=(v.an.length:Int):=by show(v.an.length:Int)%2^64=_;omega
   have⟨M,a,b⟩:=sk v.an.length D (S++[.M v.aq [] O]);have⟨L,N,q,y,n,e,f⟩:=z.call a (by grind) (S++[.M v.aq [] O]);have⟨o3,t3,Q,C⟩:=E (λ_=>h5.2.1) (λg=>absurd k g) S S.length (λx I S=>U x (p.all x I) (R.all x I) D S) v.an.length 0 q y _ D f (by grind);have⟨r,t,i,j,l,m,B⟩:=Q.fin;refine⟨r,by simp_all, ?_⟩;have c:gh .u8 5=(((dt v.ae.toNat).toNat:Nat):Int):=by simp_all
   generalize dt v.ae.toNat=u at*;simp at C;simp[c,wl,k,b,n,e];rw[ak ec];simp[C,i,j,l,m]
  ·have h6:=R.k6 k
   have er:v.cD 0=a8.jH v.e_ v.an:=by grind [a8.cD]
   rw[(by simp_all:v.bytes=[UInt8.ofNat v.ae.toNat]++cB v.an.length++v.cD 0)]at o;simp at o;have⟨M,a,b⟩:=sk v.an.length D (S++[.M v.aq [] O]);have⟨L,N,q,y,n,e,f⟩:=z.call a (by grind) (S++[.M v.aq [] O]);have⟨o3,t3,Q,C⟩:=E (λg=>by omega) (λ_=>h6.2.1) S S.length (λx I S=>U x (p.all x I) (R.all x I) D S) v.an.length 0 q y _ D f (by grind);have⟨r,t,i,j,l,m,B⟩:=Q.fin;refine⟨r,by simp_all, ?_⟩;have c:gh .u8 6=(((dt v.ae.toNat).toNat:Nat):Int):=by simp_all
   generalize dt v.ae.toNat=u at*;simp at C;simp[c,(by show(v.an.length:Int)%2^64=_;omega:IntKind.wrap .u64 (v.an.length:Int)=(v.an.length:Int)),k,b,n,e];rw[ak ec];simp[C,i,j,l,m]
def ai6:K:=[48,49,50,51,52,53,54,55,56,57,97,98,99,100,101,102]
def am8(c:UInt8):aE .shr (cg c) (.I bm 4)=J (cg (dt (c.toNat/16))):=by
 have h:=c.toNat_lt;show J (AV.I .u8 (((c.toNat:Nat):Int).fdiv (2^4)))=_;have e:((c.toNat:Nat):Int).fdiv (2^4)=((c.toNat/16:Nat):Int):=by rw[Int.fdiv_eq_ediv_of_nonneg _ (by decide)];rfl
 have a:(dt (c.toNat/16)).toNat=c.toNat/16:=by rw[zT];omega
 rw[e,cg,a]
def ai7(c:UInt8):aE .and (cg c) (.I .u8 15)=J (cg (dt (c.toNat %16))):=by
 have h:=c.toNat_lt;have a:(dt (c.toNat %16)).toNat=c.toNat %16:=by rw[zT];omega
 show J (AV.I .u8 (gh .u8 ((j0 8 (c.toNat:Int)&&&j0 8 ((15:Nat):Int)).toNat:Int)))=_;rw[BitVec.toNat_and,Q5,Q5,cg,a];have b:(((c.toNat:Nat):Int)%((2^8:Nat):Int)).toNat=c.toNat:=by omega
 rw[b,show(((15:Nat):Int)%((2^8:Nat):Int)).toNat=2^4 -1 from rfl,Nat.and_two_pow_sub_one_eq_mod];show J (AV.I .u8 (((c.toNat %16:Nat):Int)%256))=_;congr 2;omega
def RN(n:Nat)(h:n<16):MY (.S ai6) (cg (dt n))=J (cg (ru n)):=by
 have a:n=0\/n=1\/n=2\/n=3\/n=4\/n=5\/n=6\/n=7\/n=8\/n=9\/n=10\/n=11\/n=12\/n=13\/n=14\/n=15:=by omega
 rcases a with rfl|rfl|rfl|rfl|rfl|rfl|rfl|rfl|rfl|rfl|rfl|rfl|rfl|rfl|rfl|rfl<;>rfl
def nF.cvB{o:H}{t:ch}{b:K}(h:nF o t b):Pm o=J (.S b):=by
 rcases h with⟨h,rfl⟩|rfl|⟨k,rfl,a⟩;·rw[(v8 b).1 h];rfl
 ·exact Mc _ b
 ·exact Mc _ b
def Md(b:K)(R:b.length<=1000000)(S:G):∀(n i:Nat)(d:H)(ab:ch),i+n=b.length->nF d ab (dI (b.take i))->
 ∃a aS,nF a aS (dI b)/\DC F W (.L Ay) ⟨[(3,d),(6,cq b),(7,.I V (b.length:Int)),(8,.I V (i:Int))],ab,S.length⟩ S=J (.E 0,⟨[(3,a)],aS,S.length⟩,S):=by
 intro n;induction n with
 |zero=>
  intro i d ab w f;have e:i=b.length:=by omega
  subst e;rw[uP]at f;refine⟨d,ab,f, ?_⟩;rw[av,bf mq];generalize cq b=B at*;simp[-aE,dR]
 |succ n E=>
  intro i d ab w f;have o:i<b.length:=by omega
  have I:oZ 1 (cq b) (.I V (i:Int))=J (.dP .N [cg (b.getD i 0)] 0):=by rw[xV,JI,cx o];rfl
  have M:=am8 (b.getD i 0);have N:=ai7 (b.getD i 0);have A:=(b.getD i 0).toNat_lt;have s:=RN ((b.getD i 0).toNat/16) (by omega);have t:=RN ((b.getD i 0).toNat %16) (by omega);have m:dI (b.take i)++[ru ((b.getD i 0).toNat/16),ru ((b.getD i 0).toNat %16)]=dI (b.take (i+1)):=by
   have e:b.take (i+1)=b.take i++[b.getD i 0]:=by rw[sP,JI,cx o];rfl
   rw[e];simp[dI]
  have z:=kA (b.take i);have h:(b.take i).length<=i:=by simp;omega
  have g:∀x y,dq 1 [[AV.I .u8 0],[AV.I .u8 0]] [(0,cg x),(1,cg y)]=J (fA [x,y]):=λ_ _=>rfl;have⟨r,u,v,k⟩:=cY.app f (xs:=fA [ru ((b.getD i 0).toNat/16),ru ((b.getD i 0).toNat %16)]) (by simp[fA]) (by simp;omega) .X S;have l:nF r u (dI (b.take (i+1))):=by rw[<-m];simpa[nF,fA]using k
  have⟨a,aS,p,q⟩:=E (i+1) r u (by omega) l;refine⟨a,aS,p, ?_⟩;have C:gh V ((i:Int)+1)=((i+1:Nat):Int):=bj (by omega);have j:∀T c,bk T .C (.dP .N [cg c] 0)=J (cg c):=λ_ _=>rfl;have L:(i:Int)<(b.length:Int):=by omega
  rw[show ai6=[48,49,50,51,52,53,54,55,56,57,97,98,99,100,101,102]from rfl]at s t;clear k l p f m z h;have g:=g (ru ((b.getD i 0).toNat/16)) (ru ((b.getD i 0).toNat %16));generalize fA [ru ((b.getD i 0).toNat/16),ru ((b.getD i 0).toNat %16)]=P at*;have j:=j S (b.getD i 0);generalize cg (dt ((b.getD i 0).toNat/16))=U,cg (dt ((b.getD i 0).toNat %16))=X,cg (ru ((b.getD i 0).toNat/16))=y1,cg (ru ((b.getD i 0).toNat %16))=y2,cg (b.getD i 0)=Q,cq b=B at*;rw[av,bf mq];simp-implicitDefEqProofs [-aE, -MY,dR,L,I,j,M,N,s,t,g,v,ku];rw[ak mq];try simp at q
  simp-implicitDefEqProofs [-aE,C,q]
def yi(b:K)(d:b.length<=1000000)(S:G):DF F W 41 [cq b] S=J (.S (dI b),S):=by
 have⟨o,t,f,a⟩:=Md b d S b.length 0 .ar [] (by omega) (.inl ⟨rfl,rfl⟩);have c:=f.cvB;have e:=cl b;rw[fI amb];generalize cq b=B at*;simp-implicitDefEqProofs [-aE,e];rw[ak mq];try simp at a
 simp-implicitDefEqProofs [a,c]
def Qe(b:K)(c:b.length<=1000000)(S:G):DF F W 42 [cq b] S=J (.S (if b=[]then[45]else dI b),S):=by
 have h:=λT=>yi b c T;have e:=cl b;rw[fI amc];by_cases a:b=[]
 ·subst a
  simp
 ·have d:¬(b.length:Int)=0:=by have:b.length≠0:=λh=>a (List.length_eq_zero_iff.1 h);omega
  simp[e,d,h,a]
def strs(l:List K):jb:=l.map λw=>[.S w]
def q9(l m:List K):strs l++strs m=strs (l++m):=by simp[strs]
structure aB.Wf(a:aB):Prop where
 op:a.op.Wf
 bU:a.bU.Wf
def aB.Wf.cO{a:aB}(h:a.Wf):a.fc:=⟨h.op.cO,bF.Wf.cO _ h.bU⟩
def aB.sF{a:aB}(h:a.Wf):a.bare.fc:=by
 refine⟨?_, ?_⟩
 ·show(if a.ae=1 then a.op else r9).fc
  split;·exact h.op.cO
  ·exact gP
 ·show(if a.ae=2 then a.bU else jh).fc
  split;·exact bF.Wf.cO _ h.bU
  ·exact fJ
noncomputable def aB.eG(a:aB):H:=if a.code=0 then .bP [.S a.line,.aD]else .bP [.S [],r6 a.code]
section
def gw(ws:List K)(e:H):eR:=.M [.sl .N 1 (strs ws),e] [] O
def Xd(w:K)(ws:List K):Cd 1 (.sl .N 1 (strs (w::ws))) (J (.I V 1)) Z=J (.sl .N 1 (strs ws)):=by
 have h:(1:Int)<=(ws.length:Int)+1:=by omega
 have e:List.take ws.length (List.map (λw=>[AV.S w]) ws)=List.map (λw=>[AV.S w]) ws:=ob (by simp);simp[Cd,strs,hJ,yY,h,e]
def Dv(w:K)(ws:List K):oZ 1 (.sl .N 1 (strs (w::ws))) (.I V 0)=J (.dP .N [.S w] 0):=by simp[oZ,strs,yY]
def Mg(ws:List K):dy (strs ws)=Y:=jc.2 λx a=>by obtain⟨d,_,rfl⟩:=zO.1 a;rfl
section
variable{S:G}{j:Nat}{w:K}{ws:List K}{e:H}
def sr(a:S[j]? =J (gw ws e)):bk S .C (.P j 0)=J (.sl .N 1 (strs ws)):=by rw[bV a];rfl
def tI(a:S[j]? =J (gw ws e))(b:aH e=e):bk S .C (.P j 1)=J e:=by rw[bV a];simp[uW,b]
def adw(a:S[j]? =J (gw ws e))(l:List K)(ab:ch)(nb:Nat):a_ ab nb S 1 (.P j 0) (.sl .N 1 (strs l))=J (ab,S.set j (gw l e)):=by have b:aO (.sl .N 1 (strs l))=Y:=Mg l;unfold gw at a;simp only[a_,a];rw[if_pos ⟨rfl,rfl,by simp,.inr b⟩];rfl
def ik(d:S[j]? =J (gw (w::ws) e)):DF F W 69 [.P j 0] S=J (.S w,S.set j (gw ws e)):=by have f:=sr d;have g:=Dv w ws;have h:=Xd w ws;have i:=λc m=>adw d ws c m;have l:∀T x,bk T .C (.dP .N [.S x] 0)=J (.S x):=λ_ _=>rfl;have k:cn (.P j 0)=J (.P j 0):=rfl;have n:∀b,(S.set j b).take S.length=S.set j b:=λb=>ob (by simp);rw[fI amp];generalize AV.sl .N 1 (strs (w::ws))=X,AV.sl .N 1 (strs ws)=a at*;simp-implicitDefEqProofs [f,g,h,i,l,k,n,kq,bI,bD,aP,aC,aO]
end
end
section
section
variable{S:G}{j:Nat}{ws:List K}
def il(n:Int)(c: -9223372036854775808<=n)(d:n<=9223372036854775807)(f:S[j]? =J (gw (a7 n::ws) .aD)):DF F W 70 [.P j 0] S=J (.I V n,S.set j (gw ws .aD)):=by have i:=ik f;have a:=λT=>Ie n c d T;have h:=λT=>b5 n c d T;have e:b6 .neq (.dA cC) Y .aD .aD=J (.B O):=rfl;have g:cn (.P j 0)=J (.P j 0):=rfl;have k:∀b,(S.set j b).take S.length=S.set j b:=λb=>ob (by simp);have l:∀t,aK t (.bP [.I V n,.aD])=(.bP [.I V n,.aD],t):=λ_=>rfl;rw[fI amq];simp-implicitDefEqProofs [i,a,h,e,g,k,l,bJ,kq,bI,bD,aP,aC,aO]
end
def adx(c:UInt8):Int:=if 48<=c.toNat/\c.toNat<=57 then(c.toNat:Int) -48 else if 97<=c.toNat/\c.toNat<=102 then(c.toNat:Int) -87 else-1
def A6(c:UInt8)(S:G):DF F W 182 [cg c] S=J (.I V (adx c),S):=by
 have y:=c.toNat_lt;have p:∀n:Nat,aE .geq (cg c) (.I .u8 (n:Int))=J (.B (aN (n<=c.toNat))):=λn=>by show J (AV.B (aN ((c.toNat:Int)≥(n:Int))))=_;simp
 have r:∀n:Nat,aE .leq (cg c) (.I .u8 (n:Int))=J (.B (aN (c.toNat<=n))):=λn=>by show J (AV.B (aN ((c.toNat:Int)<=(n:Int))))=_;simp
 have t:∀n:Nat,n<=c.toNat->aE .sub (cg c) (.I .u8 (n:Int))=J (.I .u8 ((c.toNat:Int) -n)):=λn z=>by show J (AV.I .u8 (gh .u8 ((c.toNat:Int) -n)))=_;have e:gh .u8 ((c.toNat:Int) -n)=((c.toNat:Int) -n)%256:=rfl;rw[e,Int.emod_eq_of_lt (by omega) (by omega)]
 have o:∀x:Int,0<=x->x<256->FI V (.I .u8 x)=J (.I V x):=λx a b=>by show J (AV.I V (gh V x))=_;rw[dS (by omega)]
 have u:∀x:Int,0<=x->x<256->aE .add (.I V x) (.I V 10)=J (.I V (x+10)):=λx a b=>by show J (AV.I V (gh V (x+10)))=_;rw[dS (by omega)]
 have d:aE .geq (cg c) (.I .u8 48)=J (.B (aN (48<=c.toNat))):=p 48;have h:aE .leq (cg c) (.I .u8 57)=J (.B (aN (c.toNat<=57))):=r 57;have f:aE .geq (cg c) (.I .u8 97)=J (.B (aN (97<=c.toNat))):=p 97;have g:aE .leq (cg c) (.I .u8 102)=J (.B (aN (c.toNat<=102))):=r 102;rw[fI ag3];unfold adx;have w:tz (cg c):=(u_ c).y_;by_cases k:48<=c.toNat
 ·by_cases l:c.toNat<=57
  ·have s:aE .sub (cg c) (.I .u8 48)=J (.I .u8 ((c.toNat:Int) -48)):=t 48 k
   have v:=o ((c.toNat:Int) -48) (by omega) (by omega);rw[if_pos ⟨k,l⟩];rw[decide_eq_true k]at d;rw[decide_eq_true l]at h;generalize cg c=C at*;simp-implicitDefEqProofs [-aE, -FI,d,h,s,v]
  ·rw[if_neg (λq=>l q.2)]
   rw[decide_eq_true k]at d;rw[decide_eq_false l]at h;by_cases i:97<=c.toNat
   ·by_cases m:c.toNat<=102
    ·have s:aE .sub (cg c) (.I .u8 97)=J (.I .u8 ((c.toNat:Int) -97)):=t 97 i
     have v:=o ((c.toNat:Int) -97) (by omega) (by omega);have a:=u ((c.toNat:Int) -97) (by omega) (by omega);rw[show(c.toNat:Int) -97+10=(c.toNat:Int) -87 by omega]at a;rw[if_pos ⟨i,m⟩];rw[decide_eq_true i]at f;rw[decide_eq_true m]at g;generalize cg c=C at*;simp-implicitDefEqProofs [-aE, -FI,d,h,f,g,s,v,a]
    ·rw[if_neg (λq=>m q.2)]
     rw[decide_eq_true i]at f;rw[decide_eq_false m]at g;generalize cg c=C at*;simp-implicitDefEqProofs [-aE, -FI,d,h,f,g]
   ·rw[if_neg (λq=>i q.1)]
    rw[decide_eq_false i]at f;generalize cg c=C at*;simp-implicitDefEqProofs [-aE, -FI,d,h,f]
 ·rw[if_neg (λq=>k q.1)]
  rw[decide_eq_false k]at d;have i:¬97<=c.toNat:=by omega
  rw[if_neg (λq=>i q.1)];rw[decide_eq_false i]at f;generalize cg c=C at*;simp-implicitDefEqProofs [-aE, -FI,d,f]
end
def td(a b:Nat):(a:Int).tdiv (b:Int)=((a/b:Nat):Int):=by rfl
def tm(a b:Nat):(a:Int).tmod (b:Int)=((a %b:Nat):Int):=by rfl
def wrap_u64(n:Int)(a:0<=n)(b:n<18446744073709551616):gh bm n=n:=by
 have:gh bm n=n %18446744073709551616:=by rfl
 rw[this];omega
def RO(n:Nat)(h:n<10):FH (.S [48,49,50,51,52,53,54,55,56,57]) (J (.I bm n)) (J (.I bm ((n:Int)+1)))=J (.S [Lt n]):=by
 have a:n=0\/n=1\/n=2\/n=3\/n=4\/n=5\/n=6\/n=7\/n=8\/n=9:=by omega
 rcases a with rfl|rfl|rfl|rfl|rfl|rfl|rfl|rfl|rfl|rfl<;>rfl
def rU:∀(n:Nat),n<18446744073709551616->∀S:G,DF F W 52 [.I bm n] S=J (.S (dec n),S):=by
 intro n;induction n using Nat.strongRecOn with
 |ind n k=>
  intro l S;rw[fI amd,dec];by_cases h:n<10
  ·have a:((n:Int)<10):=by omega
   have b:gh bm ((n:Int)+1)=(n:Int)+1:=by rw[wrap_u64 _ (by omega) (by omega)]
   have:=RO n h;simp[h,a,b,this]
  ·have a:¬((n:Int)<10):=by omega
   have d:=k (n/10) (by omega) (by omega);have b:gh bm ((n:Int)%10+1)=(n:Int)%10+1:=wrap_u64 _ (by omega) (by omega);have f:gh bm ((n:Int)/10)=(n:Int)/10:=wrap_u64 _ (by omega) (by omega);have g:gh bm ((n:Int)%10)=(n:Int)%10:=wrap_u64 _ (by omega) (by omega);have i:Int.tdiv (n:Int) 10=(n:Int)/10:=Int.tdiv_eq_ediv_of_nonneg (by omega);have j:Int.tmod (n:Int) 10=(n:Int)%10:=Int.tmod_eq_emod_of_nonneg (by omega);have:=RO (n %10) (by omega);simp at d this;have e:=Bh (n:=n/10) (by omega);have c:(dec (n/10)).length+1<=1073741824:=by omega
   simp[h,a,b,f,g,i,j,d,this,c]
def bA(n:Int)(l: -9223372036854775808<=n)(m:n<9223372036854775808)(S:G):DF F W 25 [.I V n] S=J (.S (a7 n),S):=by
 rw[fI al0];by_cases h:n<0
 ·have e:((n.natAbs:Nat):Int)= -n:=by omega
  have a:=rU n.natAbs (by omega) S;rw[e]at a;have g:gh V (n+1)=n+1:=wrap_i64 _ (by omega) (by omega);have i:gh V (-(n+1))= -(n+1):=wrap_i64 _ (by omega) (by omega);have j:gh bm (-(n+1))= -(n+1):=wrap_u64 _ (by omega) (by omega);have k:gh bm (-(n+1)+1)= -n:=by rw[wrap_u64 _ (by omega) (by omega)];omega
  have d:=Bh (n:=n.natAbs) (by omega);have b:1+(dec n.natAbs).length<=1073741824:=by omega
  have c:(dec n.natAbs).length+1<=1073741824:=by omega
  simp[h,g,i,j,k,a,a7,b,c,bw]
 ·have e:((n.toNat:Nat):Int)=n:=by omega
  have a:=rU n.toNat (by omega) S;rw[e]at a;have f:gh bm n=n:=wrap_u64 _ (by omega) (by omega);simp[h,f,a,a7]
def RP(n:Nat)(h:n<16):FH (.S [48,49,50,51,52,53,54,55,56,57,97,98,99,100,101,102]) (J (.I V n)) (J (.I V ((n:Int)+1)))=J (.S [ru n]):=by
 have a:n=0\/n=1\/n=2\/n=3\/n=4\/n=5\/n=6\/n=7\/n=8\/n=9\/n=10\/n=11\/n=12\/n=13\/n=14\/n=15:=by omega
 rcases a with rfl|rfl|rfl|rfl|rfl|rfl|rfl|rfl|rfl|rfl|rfl|rfl|rfl|rfl|rfl|rfl<;>rfl
def Co(b:K)(B:b.length<=1000000)(nb:Nat)(S:G):∀d i,i+d=b.length->
 DC F W (.L s9) ⟨[(0,cq b),(3,.S [48,49,50,51,52,53,54,55,56,57,97,98,99,100,101,102]),(4,.S (dI (b.take i))),(5,.I V (i:Nat))],[],nb⟩ S=J (.E 0,⟨[(4,.S (dI b))],[],nb⟩,S):=by
 intro d;induction d with
 |zero=>
  intro i o;rw[av,bf iV];have m:¬i<b.length:=by omega
  have n:b.take i=b:=ob (by omega);simp[m,n]
 |succ d s=>
  intro i o;have f:i<b.length:=by omega
  rw[av,bf iV];obtain⟨c,g,a⟩:=aQ (l:=b) (i:=i) f;have r:dI (b.take (i+1))=dI (b.take i)++[ru (c.toNat/16),ru (c.toNat %16)]:=by rw[sP,g];simp[dI]
  have e:=s (i+1) (by omega);rw[r]at e;have C:=kA (b.take i);have p:(b.take i).length<=1000000:=by simp;omega
  have q:=c.toNat_lt;have h:=bj (i:=i) (by omega);have v:gh V (c.toNat:Int)=c.toNat:=wrap_i64 _ (by omega) (by omega);have w:(c.toNat:Int).tdiv 16=c.toNat/16:=td _ _;have x:(c.toNat:Int).tmod 16=c.toNat %16:=tm _ _;have y:gh V ((c.toNat:Int)/16)=(c.toNat:Int)/16:=wrap_i64 _ (by omega) (by omega);have z:gh V ((c.toNat:Int)/16+1)=(c.toNat:Int)/16+1:=wrap_i64 _ (by omega) (by omega);have A:gh V ((c.toNat:Int)%16+1)=(c.toNat:Int)%16+1:=wrap_i64 _ (by omega) (by omega);have j:=RP (c.toNat/16) (by omega);have k:=RP (c.toNat %16) (by omega);have t:(dI (b.take i)).length+1<=1073741824:=by omega
  have u:(dI (b.take i)).length+1+1<=1073741824:=by omega
  simp at e h j k;simp[f,g,a,cg,v,w,x,y,z,A,j,k,t,u];rw[ak iV];simp[h,e]
def qe(b:K)(a:b.length<=1000000)(S:G):DF F W 28 [cq b] S=J (.S (dI b),S):=by rw[fI al3];have h:=Co b a S.length S b.length 0 (by omega);simp[dI]at h;simp;rw[ak iV];simp[h,dI]
def fK(k:Int)(S:G):DF F W 20 [.I V k] S=J (.S (cm k),S):=by
 have f:∀a b,aE .gtr (.I V a) (.I V b)=J (.B (aN (a>b))):=λ_ _=>rfl;have c:dq 1 (eL 10 [AV.S []]) [(0,.S []),(1,.S [119,114,105,116,101]),(2,.S [112,117,98,108,105,115,104]),(3,.S [115,121,110,99]),(4,.S [100,101,108,105,118,101,114]),(5,.S [108,111,115,101]),(6,.S [99,111,112,121]),(7,.S [115,119,97,112]),(8,.S [105,110,106,101,99,116]),(9,.S [114,101,97,100])]=J (strs (([0,1,2,3,4,5,6,7,8,9]:List Int).map cm)):=rfl
 have i:∀n:Nat,n<10->oZ 1 (.sl .X 1 (strs (([0,1,2,3,4,5,6,7,8,9]:List Int).map cm))) (.I V (n:Int))=J (.dP .N [.S (cm (n:Int))] 0):=λn h=>by
  have d:n=0\/n=1\/n=2\/n=3\/n=4\/n=5\/n=6\/n=7\/n=8\/n=9:=by omega
  rcases d with rfl|rfl|rfl|rfl|rfl|rfl|rfl|rfl|rfl|rfl<;>rfl
 have j:∀T x,bk T .C (.dP .N [.S x] 0)=J (.S x):=λ_ _=>rfl;rw[fI alX];try simp only[eL]at c
 generalize strs (([0,1,2,3,4,5,6,7,8,9]:List Int).map cm)=L at*;by_cases h:k<0
 ·have e:cm k=[]:=by unfold cm;simp[show k≠1 by omega,show k≠2 by omega,show k≠3 by omega,show k≠4 by omega,show k≠5 by omega,show k≠6 by omega,show k≠7 by omega,show k≠8 by omega,show k≠9 by omega]
  simp-implicitDefEqProofs [-aE,dR,f,c,h,e]
 ·by_cases d:k>9
  ·have e:cm k=[]:=by unfold cm;simp[show k≠1 by omega,show k≠2 by omega,show k≠3 by omega,show k≠4 by omega,show k≠5 by omega,show k≠6 by omega,show k≠7 by omega,show k≠8 by omega,show k≠9 by omega]
   simp-implicitDefEqProofs [-aE,dR,f,c,h,d,e]
  ·have g:=i k.toNat (by omega)
   rw[show((k.toNat:Nat):Int)=k by omega]at g;simp-implicitDefEqProofs [-aE,dR,f,c,h,d,g,j]
def kQ(k:Int)(S:G):DF F W 21 [.I V k] S=J (.B (cZ k),S):=by rw[fI alY];unfold cZ;by_cases a:k=3<;>by_cases b:k=7<;>by_cases c:k=8<;>simp[a,b,c]
def dN(k:Int)(S:G):DF F W 22 [.I V k] S=J (.B (c7 k),S):=by rw[fI alZ];unfold c7;by_cases a:k=1<;>by_cases b:k=2<;>by_cases c:k=9<;>simp[a,b,c]
def Ox(a b:K)(nb:Nat)(S:G)(n:Nat)(k:a.length=n)(M:b.length=n)(N:n<9223372036854775808):∀d i,i+d=n->
 DC F W (.L qP) ⟨[(0,cq a),(1,cq b),(5,.I V (i:Nat))],[],nb⟩ S=
  if a.drop i=b.drop i then J (.E 0,⟨[],[],nb⟩,S)else J (.R,⟨[(4,.B O)],[],nb⟩,S):=by
 have o:∀s,gM (cq s)=J (.I V (s.length:Int)):=λs=>by cases s<;>simp[cq,gG,gM]
 intro d;induction d with
 |zero=>
  intro i C;rw[av,bf hX];have j:a.drop i=[]:=iy (by omega);have A:b.drop i=[]:=iy (by omega);have B:¬i<n:=by omega
  simp[j,A,B,o,k]
 |succ d L=>
  intro i C;have j:i<n:=by omega
  rw[av,bf hX];obtain⟨x,q,E⟩:=aQ (l:=a) (i:=i) (by omega);obtain⟨y,t,I⟩:=aQ (l:=b) (i:=i) (by omega);rw[aZ q,aZ t];have c:=L (i+1) (by omega);have p:=bj (i:=i) (by omega)
  have u:∀(s:K) z,s[i]? =J z->oZ 1 (cq s) (.I V (i:Int))=J (.dP .N [cg z] 0):=λs z h=>by
   have m:s≠[]:=by intro e;rw[e]at h;simp at h
   have w:cq s=.sl .N 1 (bcs s):=by cases s with
    |nil=>exact absurd rfl m
    |cons a r=>rfl
   rw[w,WW,h];rfl
  have f:=u a x q;have g:=u b y t;simp at c p;by_cases e:x=y
  ·subst e
   simp[j,o,k,f,g,cg];rw[ak hX];simp[p,c]
  ·have v:¬x.toNat=y.toNat:=λh=>e (UInt8.toNat_inj.1 h)
   simp[j,o,k,f,g,cg,e,v]
def Oy(a b:K)(f:a.length<9223372036854775808)(S:G):DF F W 73 [cq a,cq b] S=J (.B (aN (a=b)),S):=by
 have d:∀s,gM (cq s)=J (.I V (s.length:Int)):=λs=>by cases s<;>simp[cq,gG,gM]
 rw[jE amr];by_cases c:a.length=b.length
 ·have h:=Ox a b S.length S a.length rfl c.symm f a.length 0 (by omega)
  simp at h;simp[d,c];rw[ak hX];by_cases e:a=b
  ·simp[e]at h
   simp[h,e]
  ·simp[e]at h
   simp[h,e]
 ·have e:a≠b:=λe=>c (by rw[e])
  simp[d,c,e]
def Ib(a b:aB)(k:a.fc)(l:b.fc)(n:a.raw.length<9223372036854775808)(S:G):DF F W 34 [.A a.aq,.A b.aq] S=J (.B (same a b),S):=by
 rw[jE al6,aB.iQ];have h:=b9 a.op b.op k.op l.op;have j:=b8 a.bU b.bU k.bU l.bU;have m:=Oy a.raw b.raw n;by_cases c:a.ae=b.ae;rotate_left;·simp[ey,c]
 by_cases d:a.fst=b.fst;rotate_left;·simp[ey,c,d]
 by_cases e:a.snd=b.snd;rotate_left;·simp[ey,c,d,e]
 by_cases f:a.b_=b.b_;rotate_left;·simp[ey,c,d,e,f]
 cases g:same a.op b.op;·simp[ey,c,d,e,f,g,h]
 cases i:same a.bU b.bU;·simp[ey,c,d,e,f,g,i,h,j]
 simp[ey,c,d,e,f,g,i,h,j,m]
structure aB.Flat(a:aB):Prop where
 op:a.op.value.depth<1000000
 bU:a.bU.depth<1000000
 deep:a.bU.Deep
noncomputable def aB.gK(a:aB):H:=if a.code=0 then .bP [.S a.line,.I V 0]else .bP [.S [],.I V (a.code:Int)]
def eW(x y:K)(h:x.length+y.length<=1073741824):bG .add (.S x) (.S y)=J (.S (x++y)):=if_pos h
def kD(x y:K):bG .eql (.S x) (.S y)=J (.B (aN (x=y))):=by show J (AV.B (x==y))=_;congr 2;try(rw[wU];simp)
def bX(a b:Int):aE .neq (.I V a) (.I V b)=J (.B (aN (a≠b))):=by show J (AV.B (a !=b))=_;congr 2;try(rw[wU];simp)
def jj(a b:Int):aE .eql (.I V a) (.I V b)=J (.B (aN (a=b))):=by show J (AV.B (a==b))=_;congr 2;try(rw[wU];simp)
def eQ(a b:Int):aE .gtr (.I V a) (.I V b)=J (.B (aN (a>b))):=rfl
def Qf{k:Int}(h:¬(1<=k/\k<=9)):cm k=[]:=by unfold cm;simp[show k≠1 by omega,show k≠2 by omega,show k≠3 by omega,show k≠4 by omega,show k≠5 by omega,show k≠6 by omega,show k≠7 by omega,show k≠8 by omega,show k≠9 by omega]
def adu(a:aB)(S:G)(h:¬(1<=a.ae/\a.ae<=9)):DF F W 8 [.A a.aq] S=J (a.gK,S):=by
 have e:a.gK=.bP [.S [],.I V 5]:=by
  have c:a.code=5:=by unfold aB.code;rw[if_pos h]
  unfold aB.gK;rw[c];rfl
 have b:=λT=>fK a.ae T;rw[Qf h]at b;have d:=kD [] [];rw[e,fI Gj];simp-implicitDefEqProofs [-bG,b,d,dr,bI,bD,aP,aC,aO]
def W0(a:aB)(Q:a.Wf)(S:G)(h:a.ae=1)(R:¬(a.cR=Y/\a.raw.length<=4096)):DF F W 8 [.A a.aq] S=J (a.gK,S):=by
 have e:a.gK=.bP [.S [],.I V 1]:=by
  have c:a.code=1:=by unfold aB.code;rw[if_neg (λq:¬_=>q (by omega)),if_pos R]
  unfold aB.gK;rw[c];rfl
 have w:=λT=>fK a.ae T;have u:=λT=>kQ a.ae T;have v:=λT=>dN a.ae T;rw[h]at w u v;rw[show cm 1=[119,114,105,116,101]from rfl]at w;rw[show cZ 1=O from rfl]at u;rw[show c7 1=Y from rfl]at v;have y:=kD [119,114,105,116,101] [];rw[decide_eq_false (by decide)]at y;have z:=bX 1 1;have A:=bX 1 2;have B:=bX 1 8;rw[decide_eq_false (by decide)]at z;rw[decide_eq_true (by decide)]at A;rw[decide_eq_true (by decide)]at B;have x:=bX a.snd 0;have n3:=bX a.b_ 0;have I:=eQ (a.raw.length:Int) 0;have P:=eQ (a.raw.length:Int) 4096;have L:=cl a.raw;have sO:=λT=>b9 a.op r9 Q.op.cO gP T;have E:=λT=>b8 a.bU jh (bF.Wf.cO _ Q.bU) fJ T;have i:bE ag []=J ag:=rfl;have g:bE ad []=J ad:=rfl;have o:=kG;have k:=kH;have m:=kJ;have r:=hE;have n:=kK;have j:=kL;have l:=kM;have p:=hH;rw[e,fI Gj];clear e;have hz:ag.length=10:=rfl;have M:=bK;generalize ag=X,ad=U at*;have N:∀s b,cd 8 s [.S [],.I V 1] S (S++b)=J (.bP [.S [],.I V 1],S):=λs b=>by simp[dr,bI,bD,aP,aC,aO]
 by_cases C:a.snd=0;rotate_left
 ·rw[decide_eq_true (by omega)]at x
  simp-implicitDefEqProofs [M, -aE, -bG,h,w,u,v,y,z,A,B,bw,L,i,g,o,k,m,r,n,j,l,p,N,x]
 rw[decide_eq_false (by omega)]at x;by_cases d:same a.bU jh=Y;rotate_left
 ·rw[(by simpa using d:same a.bU jh=false)]at E
  simp-implicitDefEqProofs [M, -aE, -bG,h,w,u,v,y,z,A,B,bw,L,i,g,o,k,m,r,n,j,l,p,N,x,E]
 rw[d]at E;by_cases f:a.raw=[];rotate_left
 ·rw[decide_eq_true (by have:=BT.2 f;omega)]at I
  simp-implicitDefEqProofs [M, -aE, -bG,h,w,u,v,y,z,A,B,bw,L,i,g,o,k,m,r,n,j,l,p,N,x,E,I]
 rw[decide_eq_false (by rw[f];simp)]at I;by_cases t:a.raw.length<=4096;rotate_left
 ·rw[decide_eq_true (by omega)]at P
  simp-implicitDefEqProofs [M, -aE, -bG,h,w,u,v,y,z,A,B,bw,L,i,g,o,k,m,r,n,j,l,p,N,x,E,I,P]
 exact absurd ⟨by unfold aB.cR;simp[cZ,c7,h,C,d,f],t⟩ R
def W1(a:aB)(Q:a.Wf)(S:G)(h:a.ae=2)(R:¬(a.cR=Y/\a.raw.length<=4096)):DF F W 8 [.A a.aq] S=J (a.gK,S):=by
 have e:a.gK=.bP [.S [],.I V 1]:=by
  have c:a.code=1:=by unfold aB.code;rw[if_neg (λq:¬_=>q (by omega)),if_pos R]
  unfold aB.gK;rw[c];rfl
 have w:=λT=>fK a.ae T;have u:=λT=>kQ a.ae T;have v:=λT=>dN a.ae T;rw[h]at w u v;rw[show cm 2=[112,117,98,108,105,115,104]from rfl]at w;rw[show cZ 2=O from rfl]at u;rw[show c7 2=Y from rfl]at v;have y:=kD [112,117,98,108,105,115,104] [];rw[decide_eq_false (by decide)]at y;have z:=bX 2 1;have A:=bX 2 2;have B:=bX 2 8;rw[decide_eq_true (by decide)]at z;rw[decide_eq_false (by decide)]at A;rw[decide_eq_true (by decide)]at B;have x:=bX a.snd 0;have n3:=bX a.b_ 0;have I:=eQ (a.raw.length:Int) 0;have P:=eQ (a.raw.length:Int) 4096;have L:=cl a.raw;have E:=λT=>b9 a.op r9 Q.op.cO gP T;have sL:=λT=>b8 a.bU jh (bF.Wf.cO _ Q.bU) fJ T;have g:bE ag []=J ag:=rfl;have f:bE ad []=J ad:=rfl;have n:=kG;have j:=kH;have l:=kJ;have p:=hE;have m:=kK;have i:=kL;have k:=kM;have o:=hH;rw[e,fI Gj];clear e;have hz:ag.length=10:=rfl;have M:=bK;generalize ag=X,ad=U at*;have N:∀r b,cd 8 r [.S [],.I V 1] S (S++b)=J (.bP [.S [],.I V 1],S):=λr b=>by simp[dr,bI,bD,aP,aC,aO]
 by_cases C:a.snd=0;rotate_left
 ·rw[decide_eq_true (by omega)]at x
  simp-implicitDefEqProofs [M, -aE, -bG,h,w,u,v,y,z,A,B,bw,L,g,f,n,j,l,p,m,i,k,o,N,x]
 rw[decide_eq_false (by omega)]at x;by_cases t:same a.op r9=Y;rotate_left
 ·rw[(by simpa using t:same a.op r9=false)]at E
  simp-implicitDefEqProofs [M, -aE, -bG,h,w,u,v,y,z,A,B,bw,L,g,f,n,j,l,p,m,i,k,o,N,x,E]
 rw[t]at E;by_cases d:a.raw=[];rotate_left
 ·rw[decide_eq_true (by have:=BT.2 d;omega)]at I
  simp-implicitDefEqProofs [M, -aE, -bG,h,w,u,v,y,z,A,B,bw,L,g,f,n,j,l,p,m,i,k,o,N,x,E,I]
 rw[decide_eq_false (by rw[d];simp)]at I;by_cases s:a.raw.length<=4096;rotate_left
 ·rw[decide_eq_true (by omega)]at P
  simp-implicitDefEqProofs [M, -aE, -bG,h,w,u,v,y,z,A,B,bw,L,g,f,n,j,l,p,m,i,k,o,N,x,E,I,P]
 exact absurd ⟨by unfold aB.cR;simp[cZ,c7,h,C,t,d],s⟩ R
def W2(a:aB)(U:a.Wf)(S:G)(h:a.ae=3)(X:¬(a.cR=Y/\a.raw.length<=4096)):DF F W 8 [.A a.aq] S=J (a.gK,S):=by
 have e:a.gK=.bP [.S [],.I V 1]:=by
  have c:a.code=1:=by unfold aB.code;rw[if_neg (λq:¬_=>q (by omega)),if_pos X]
  unfold aB.gK;rw[c];rfl
 have v:=λT=>fK a.ae T;have t:=λT=>kQ a.ae T;have u:=λT=>dN a.ae T;rw[h]at v t u;rw[show cm 3=[115,121,110,99]from rfl]at v;rw[show cZ 3=Y from rfl]at t;rw[show c7 3=O from rfl]at u;have A:=kD [115,121,110,99] [];rw[decide_eq_false (by decide)]at A;have B:=bX 3 1;have C:=bX 3 2;have E:=bX 3 8;rw[decide_eq_true (by decide)]at B;rw[decide_eq_true (by decide)]at C;rw[decide_eq_true (by decide)]at E;have n2:=bX a.snd 0;have w:=bX a.b_ 0;have Q:=eQ (a.raw.length:Int) 0;have R:=eQ (a.raw.length:Int) 4096;have L:=cl a.raw;have I:=λT=>b9 a.op r9 U.op.cO gP T;have P:=λT=>b8 a.bU jh (bF.Wf.cO _ U.bU) fJ T;have i:bE ag []=J ag:=rfl;have g:bE ad []=J ad:=rfl;have o:=kG;have k:=kH;have m:=kJ;have r:=hE;have n:=kK;have j:=kL;have l:=kM;have p:=hH;rw[e,fI Gj];clear e;have hz:ag.length=10:=rfl;have M:=bK;generalize ag=ZO,ad=ZL at*;have N:∀s b,cd 8 s [.S [],.I V 1] S (S++b)=J (.bP [.S [],.I V 1],S):=λs b=>by simp[dr,bI,bD,aP,aC,aO]
 by_cases z:a.b_=0;rotate_left
 ·rw[decide_eq_true (by omega)]at w
  simp-implicitDefEqProofs [M, -aE, -bG,h,v,t,u,A,B,C,E,bw,L,i,g,o,k,m,r,n,j,l,p,N,w]
 rw[decide_eq_false (by omega)]at w;by_cases y:same a.op r9=Y;rotate_left
 ·rw[(by simpa using y:same a.op r9=false)]at I
  simp-implicitDefEqProofs [M, -aE, -bG,h,v,t,u,A,B,C,E,bw,L,i,g,o,k,m,r,n,j,l,p,N,w,I]
 rw[y]at I;by_cases d:same a.bU jh=Y;rotate_left
 ·rw[(by simpa using d:same a.bU jh=false)]at P
  simp-implicitDefEqProofs [M, -aE, -bG,h,v,t,u,A,B,C,E,bw,L,i,g,o,k,m,r,n,j,l,p,N,w,I,P]
 rw[d]at P;by_cases f:a.raw=[];rotate_left
 ·rw[decide_eq_true (by have:=BT.2 f;omega)]at Q
  simp-implicitDefEqProofs [M, -aE, -bG,h,v,t,u,A,B,C,E,bw,L,i,g,o,k,m,r,n,j,l,p,N,w,I,P,Q]
 rw[decide_eq_false (by rw[f];simp)]at Q;by_cases x:a.raw.length<=4096;rotate_left
 ·rw[decide_eq_true (by omega)]at R
  simp-implicitDefEqProofs [M, -aE, -bG,h,v,t,u,A,B,C,E,bw,L,i,g,o,k,m,r,n,j,l,p,N,w,I,P,Q,R]
 exact absurd ⟨by unfold aB.cR;simp[cZ,c7,h,z,y,d,f],x⟩ X
def W3(a:aB)(ha:a.Wf)(S:G)(h:a.ae=4)(hb:¬(a.cR=Y/\a.raw.length<=4096)):DF F W 8 [.A a.aq] S=J (a.gK,S):=by
 have e:a.gK=.bP [.S [],.I V 1]:=by
  have c:a.code=1:=by unfold aB.code;rw[if_neg (λq:¬_=>q (by omega)),if_pos hb]
  unfold aB.gK;rw[c];rfl
 have u:=λT=>fK a.ae T;have s:=λT=>kQ a.ae T;have t:=λT=>dN a.ae T;rw[h]at u s t;rw[show cm 4=[100,101,108,105,118,101,114]from rfl]at u;rw[show cZ 4=O from rfl]at s;rw[show c7 4=O from rfl]at t;have x:=kD [100,101,108,105,118,101,114] [];rw[decide_eq_false (by decide)]at x;have y:=bX 4 1;have z:=bX 4 2;have A:=bX 4 8;rw[decide_eq_true (by decide)]at y;rw[decide_eq_true (by decide)]at z;rw[decide_eq_true (by decide)]at A;have v:=bX a.snd 0;have B:=bX a.b_ 0;have U:=eQ (a.raw.length:Int) 0;have X:=eQ (a.raw.length:Int) 4096;have L:=cl a.raw;have P:=λT=>b9 a.op r9 ha.op.cO gP T;have R:=λT=>b8 a.bU jh (bF.Wf.cO _ ha.bU) fJ T;have g:bE ag []=J ag:=rfl;have f:bE ad []=J ad:=rfl;have n:=kG;have j:=kH;have l:=kJ;have p:=hE;have m:=kK;have i:=kL;have k:=kM;have o:=hH;rw[e,fI Gj];clear e;have hz:ag.length=10:=rfl;have M:=bK;generalize ag=ZO,ad=ZL at*;have N:∀w b,cd 8 w [.S [],.I V 1] S (S++b)=J (.bP [.S [],.I V 1],S):=λw b=>by simp[dr,bI,bD,aP,aC,aO]
 by_cases Q:a.snd=0;rotate_left
 ·rw[decide_eq_true (by omega)]at v
  simp-implicitDefEqProofs [M, -aE, -bG,h,u,s,t,x,y,z,A,bw,L,g,f,n,j,l,p,m,i,k,o,N,v]
 rw[decide_eq_false (by omega)]at v;by_cases I:a.b_=0;rotate_left
 ·rw[decide_eq_true (by omega)]at B
  simp-implicitDefEqProofs [M, -aE, -bG,h,u,s,t,x,y,z,A,bw,L,g,f,n,j,l,p,m,i,k,o,N,v,B]
 rw[decide_eq_false (by omega)]at B;by_cases E:same a.op r9=Y;rotate_left
 ·rw[(by simpa using E:same a.op r9=false)]at P
  simp-implicitDefEqProofs [M, -aE, -bG,h,u,s,t,x,y,z,A,bw,L,g,f,n,j,l,p,m,i,k,o,N,v,B,P]
 rw[E]at P;by_cases d:same a.bU jh=Y;rotate_left
 ·rw[(by simpa using d:same a.bU jh=false)]at R
  simp-implicitDefEqProofs [M, -aE, -bG,h,u,s,t,x,y,z,A,bw,L,g,f,n,j,l,p,m,i,k,o,N,v,B,P,R]
 rw[d]at R;by_cases r:a.raw=[];rotate_left
 ·rw[decide_eq_true (by have:=BT.2 r;omega)]at U
  simp-implicitDefEqProofs [M, -aE, -bG,h,u,s,t,x,y,z,A,bw,L,g,f,n,j,l,p,m,i,k,o,N,v,B,P,R,U]
 rw[decide_eq_false (by rw[r];simp)]at U;by_cases C:a.raw.length<=4096;rotate_left
 ·rw[decide_eq_true (by omega)]at X
  simp-implicitDefEqProofs [M, -aE, -bG,h,u,s,t,x,y,z,A,bw,L,g,f,n,j,l,p,m,i,k,o,N,v,B,P,R,U,X]
 exact absurd ⟨by unfold aB.cR;simp[cZ,c7,h,Q,I,E,d,r],C⟩ hb
def W4(a:aB)(ha:a.Wf)(S:G)(h:a.ae=5)(hb:¬(a.cR=Y/\a.raw.length<=4096)):DF F W 8 [.A a.aq] S=J (a.gK,S):=by
 have e:a.gK=.bP [.S [],.I V 1]:=by
  have c:a.code=1:=by unfold aB.code;rw[if_neg (λq:¬_=>q (by omega)),if_pos hb]
  unfold aB.gK;rw[c];rfl
 have u:=λT=>fK a.ae T;have s:=λT=>kQ a.ae T;have t:=λT=>dN a.ae T;rw[h]at u s t;rw[show cm 5=[108,111,115,101]from rfl]at u;rw[show cZ 5=O from rfl]at s;rw[show c7 5=O from rfl]at t;have x:=kD [108,111,115,101] [];rw[decide_eq_false (by decide)]at x;have y:=bX 5 1;have z:=bX 5 2;have A:=bX 5 8;rw[decide_eq_true (by decide)]at y;rw[decide_eq_true (by decide)]at z;rw[decide_eq_true (by decide)]at A;have v:=bX a.snd 0;have B:=bX a.b_ 0;have U:=eQ (a.raw.length:Int) 0;have X:=eQ (a.raw.length:Int) 4096;have L:=cl a.raw;have P:=λT=>b9 a.op r9 ha.op.cO gP T;have R:=λT=>b8 a.bU jh (bF.Wf.cO _ ha.bU) fJ T;have g:bE ag []=J ag:=rfl;have f:bE ad []=J ad:=rfl;have n:=kG;have j:=kH;have l:=kJ;have p:=hE;have m:=kK;have i:=kL;have k:=kM;have o:=hH;rw[e,fI Gj];clear e;have hz:ag.length=10:=rfl;have M:=bK;generalize ag=ZO,ad=ZL at*;have N:∀w b,cd 8 w [.S [],.I V 1] S (S++b)=J (.bP [.S [],.I V 1],S):=λw b=>by simp[dr,bI,bD,aP,aC,aO]
 by_cases Q:a.snd=0;rotate_left
 ·rw[decide_eq_true (by omega)]at v
  simp-implicitDefEqProofs [M, -aE, -bG,h,u,s,t,x,y,z,A,bw,L,g,f,n,j,l,p,m,i,k,o,N,v]
 rw[decide_eq_false (by omega)]at v;by_cases I:a.b_=0;rotate_left
 ·rw[decide_eq_true (by omega)]at B
  simp-implicitDefEqProofs [M, -aE, -bG,h,u,s,t,x,y,z,A,bw,L,g,f,n,j,l,p,m,i,k,o,N,v,B]
 rw[decide_eq_false (by omega)]at B;by_cases E:same a.op r9=Y;rotate_left
 ·rw[(by simpa using E:same a.op r9=false)]at P
  simp-implicitDefEqProofs [M, -aE, -bG,h,u,s,t,x,y,z,A,bw,L,g,f,n,j,l,p,m,i,k,o,N,v,B,P]
 rw[E]at P;by_cases d:same a.bU jh=Y;rotate_left
 ·rw[(by simpa using d:same a.bU jh=false)]at R
  simp-implicitDefEqProofs [M, -aE, -bG,h,u,s,t,x,y,z,A,bw,L,g,f,n,j,l,p,m,i,k,o,N,v,B,P,R]
 rw[d]at R;by_cases r:a.raw=[];rotate_left
 ·rw[decide_eq_true (by have:=BT.2 r;omega)]at U
  simp-implicitDefEqProofs [M, -aE, -bG,h,u,s,t,x,y,z,A,bw,L,g,f,n,j,l,p,m,i,k,o,N,v,B,P,R,U]
 rw[decide_eq_false (by rw[r];simp)]at U;by_cases C:a.raw.length<=4096;rotate_left
 ·rw[decide_eq_true (by omega)]at X
  simp-implicitDefEqProofs [M, -aE, -bG,h,u,s,t,x,y,z,A,bw,L,g,f,n,j,l,p,m,i,k,o,N,v,B,P,R,U,X]
 exact absurd ⟨by unfold aB.cR;simp[cZ,c7,h,Q,I,E,d,r],C⟩ hb
def W5(a:aB)(ha:a.Wf)(S:G)(h:a.ae=6)(hb:¬(a.cR=Y/\a.raw.length<=4096)):DF F W 8 [.A a.aq] S=J (a.gK,S):=by
 have e:a.gK=.bP [.S [],.I V 1]:=by
  have c:a.code=1:=by unfold aB.code;rw[if_neg (λq:¬_=>q (by omega)),if_pos hb]
  unfold aB.gK;rw[c];rfl
 have u:=λT=>fK a.ae T;have s:=λT=>kQ a.ae T;have t:=λT=>dN a.ae T;rw[h]at u s t;rw[show cm 6=[99,111,112,121]from rfl]at u;rw[show cZ 6=O from rfl]at s;rw[show c7 6=O from rfl]at t;have x:=kD [99,111,112,121] [];rw[decide_eq_false (by decide)]at x;have y:=bX 6 1;have z:=bX 6 2;have A:=bX 6 8;rw[decide_eq_true (by decide)]at y;rw[decide_eq_true (by decide)]at z;rw[decide_eq_true (by decide)]at A;have v:=bX a.snd 0;have B:=bX a.b_ 0;have U:=eQ (a.raw.length:Int) 0;have X:=eQ (a.raw.length:Int) 4096;have L:=cl a.raw;have P:=λT=>b9 a.op r9 ha.op.cO gP T;have R:=λT=>b8 a.bU jh (bF.Wf.cO _ ha.bU) fJ T;have g:bE ag []=J ag:=rfl;have f:bE ad []=J ad:=rfl;have n:=kG;have j:=kH;have l:=kJ;have p:=hE;have m:=kK;have i:=kL;have k:=kM;have o:=hH;rw[e,fI Gj];clear e;have hz:ag.length=10:=rfl;have M:=bK;generalize ag=ZO,ad=ZL at*;have N:∀w b,cd 8 w [.S [],.I V 1] S (S++b)=J (.bP [.S [],.I V 1],S):=λw b=>by simp[dr,bI,bD,aP,aC,aO]
 by_cases Q:a.snd=0;rotate_left
 ·rw[decide_eq_true (by omega)]at v
  simp-implicitDefEqProofs [M, -aE, -bG,h,u,s,t,x,y,z,A,bw,L,g,f,n,j,l,p,m,i,k,o,N,v]
 rw[decide_eq_false (by omega)]at v;by_cases I:a.b_=0;rotate_left
 ·rw[decide_eq_true (by omega)]at B
  simp-implicitDefEqProofs [M, -aE, -bG,h,u,s,t,x,y,z,A,bw,L,g,f,n,j,l,p,m,i,k,o,N,v,B]
 rw[decide_eq_false (by omega)]at B;by_cases E:same a.op r9=Y;rotate_left
 ·rw[(by simpa using E:same a.op r9=false)]at P
  simp-implicitDefEqProofs [M, -aE, -bG,h,u,s,t,x,y,z,A,bw,L,g,f,n,j,l,p,m,i,k,o,N,v,B,P]
 rw[E]at P;by_cases d:same a.bU jh=Y;rotate_left
 ·rw[(by simpa using d:same a.bU jh=false)]at R
  simp-implicitDefEqProofs [M, -aE, -bG,h,u,s,t,x,y,z,A,bw,L,g,f,n,j,l,p,m,i,k,o,N,v,B,P,R]
 rw[d]at R;by_cases r:a.raw=[];rotate_left
 ·rw[decide_eq_true (by have:=BT.2 r;omega)]at U
  simp-implicitDefEqProofs [M, -aE, -bG,h,u,s,t,x,y,z,A,bw,L,g,f,n,j,l,p,m,i,k,o,N,v,B,P,R,U]
 rw[decide_eq_false (by rw[r];simp)]at U;by_cases C:a.raw.length<=4096;rotate_left
 ·rw[decide_eq_true (by omega)]at X
  simp-implicitDefEqProofs [M, -aE, -bG,h,u,s,t,x,y,z,A,bw,L,g,f,n,j,l,p,m,i,k,o,N,v,B,P,R,U,X]
 exact absurd ⟨by unfold aB.cR;simp[cZ,c7,h,Q,I,E,d,r],C⟩ hb
def W6(a:aB)(U:a.Wf)(S:G)(h:a.ae=7)(X:¬(a.cR=Y/\a.raw.length<=4096)):DF F W 8 [.A a.aq] S=J (a.gK,S):=by
 have e:a.gK=.bP [.S [],.I V 1]:=by
  have c:a.code=1:=by unfold aB.code;rw[if_neg (λq:¬_=>q (by omega)),if_pos X]
  unfold aB.gK;rw[c];rfl
 have v:=λT=>fK a.ae T;have t:=λT=>kQ a.ae T;have u:=λT=>dN a.ae T;rw[h]at v t u;rw[show cm 7=[115,119,97,112]from rfl]at v;rw[show cZ 7=Y from rfl]at t;rw[show c7 7=O from rfl]at u;have A:=kD [115,119,97,112] [];rw[decide_eq_false (by decide)]at A;have B:=bX 7 1;have C:=bX 7 2;have E:=bX 7 8;rw[decide_eq_true (by decide)]at B;rw[decide_eq_true (by decide)]at C;rw[decide_eq_true (by decide)]at E;have n2:=bX a.snd 0;have w:=bX a.b_ 0;have Q:=eQ (a.raw.length:Int) 0;have R:=eQ (a.raw.length:Int) 4096;have L:=cl a.raw;have I:=λT=>b9 a.op r9 U.op.cO gP T;have P:=λT=>b8 a.bU jh (bF.Wf.cO _ U.bU) fJ T;have i:bE ag []=J ag:=rfl;have g:bE ad []=J ad:=rfl;have o:=kG;have k:=kH;have m:=kJ;have r:=hE;have n:=kK;have j:=kL;have l:=kM;have p:=hH;rw[e,fI Gj];clear e;have hz:ag.length=10:=rfl;have M:=bK;generalize ag=ZO,ad=ZL at*;have N:∀s b,cd 8 s [.S [],.I V 1] S (S++b)=J (.bP [.S [],.I V 1],S):=λs b=>by simp[dr,bI,bD,aP,aC,aO]
 by_cases z:a.b_=0;rotate_left
 ·rw[decide_eq_true (by omega)]at w
  simp-implicitDefEqProofs [M, -aE, -bG,h,v,t,u,A,B,C,E,bw,L,i,g,o,k,m,r,n,j,l,p,N,w]
 rw[decide_eq_false (by omega)]at w;by_cases y:same a.op r9=Y;rotate_left
 ·rw[(by simpa using y:same a.op r9=false)]at I
  simp-implicitDefEqProofs [M, -aE, -bG,h,v,t,u,A,B,C,E,bw,L,i,g,o,k,m,r,n,j,l,p,N,w,I]
 rw[y]at I;by_cases d:same a.bU jh=Y;rotate_left
 ·rw[(by simpa using d:same a.bU jh=false)]at P
  simp-implicitDefEqProofs [M, -aE, -bG,h,v,t,u,A,B,C,E,bw,L,i,g,o,k,m,r,n,j,l,p,N,w,I,P]
 rw[d]at P;by_cases f:a.raw=[];rotate_left
 ·rw[decide_eq_true (by have:=BT.2 f;omega)]at Q
  simp-implicitDefEqProofs [M, -aE, -bG,h,v,t,u,A,B,C,E,bw,L,i,g,o,k,m,r,n,j,l,p,N,w,I,P,Q]
 rw[decide_eq_false (by rw[f];simp)]at Q;by_cases x:a.raw.length<=4096;rotate_left
 ·rw[decide_eq_true (by omega)]at R
  simp-implicitDefEqProofs [M, -aE, -bG,h,v,t,u,A,B,C,E,bw,L,i,g,o,k,m,r,n,j,l,p,N,w,I,P,Q,R]
 exact absurd ⟨by unfold aB.cR;simp[cZ,c7,h,z,y,d,f],x⟩ X
def W7(a:aB)(Q:a.Wf)(S:G)(h:a.ae=8)(R:¬(a.cR=Y/\a.raw.length<=4096)):DF F W 8 [.A a.aq] S=J (a.gK,S):=by
 have e:a.gK=.bP [.S [],.I V 1]:=by
  have c:a.code=1:=by unfold aB.code;rw[if_neg (λq:¬_=>q (by omega)),if_pos R]
  unfold aB.gK;rw[c];rfl
 have x:=λT=>fK a.ae T;have v:=λT=>kQ a.ae T;have w:=λT=>dN a.ae T;rw[h]at x v w;rw[show cm 8=[105,110,106,101,99,116]from rfl]at x;rw[show cZ 8=Y from rfl]at v;rw[show c7 8=O from rfl]at w;have z:=kD [105,110,106,101,99,116] [];rw[decide_eq_false (by decide)]at z;have A:=bX 8 1;have B:=bX 8 2;have C:=bX 8 8;rw[decide_eq_true (by decide)]at A;rw[decide_eq_true (by decide)]at B;rw[decide_eq_false (by decide)]at C;have n2:=bX a.snd 0;have y:=bX a.b_ 0;have gl:=eQ (a.raw.length:Int) 0;have P:=eQ (a.raw.length:Int) 4096;have I:=cl a.raw;have E:=λT=>b9 a.op r9 Q.op.cO gP T;have N:=λT=>b8 a.bU jh (bF.Wf.cO _ Q.bU) fJ T;have g:bE ag []=J ag:=rfl;have f:bE ad []=J ad:=rfl;have n:=kG;have j:=kH;have l:=kJ;have p:=hE;have m:=kK;have i:=kL;have k:=kM;have o:=hH;rw[e,fI Gj];clear e;have hz:ag.length=10:=rfl;have L:=bK;generalize ag=X,ad=U at*;have M:∀r b,cd 8 r [.S [],.I V 1] S (S++b)=J (.bP [.S [],.I V 1],S):=λr b=>by simp[dr,bI,bD,aP,aC,aO]
 by_cases u:a.b_=0;rotate_left
 ·rw[decide_eq_true (by omega)]at y
  simp-implicitDefEqProofs [L, -aE, -bG,h,x,v,w,z,A,B,C,bw,I,g,f,n,j,l,p,m,i,k,o,M,y]
 rw[decide_eq_false (by omega)]at y;by_cases t:same a.op r9=Y;rotate_left
 ·rw[(by simpa using t:same a.op r9=false)]at E
  simp-implicitDefEqProofs [L, -aE, -bG,h,x,v,w,z,A,B,C,bw,I,g,f,n,j,l,p,m,i,k,o,M,y,E]
 rw[t]at E;by_cases d:same a.bU jh=Y;rotate_left
 ·rw[(by simpa using d:same a.bU jh=false)]at N
  simp-implicitDefEqProofs [L, -aE, -bG,h,x,v,w,z,A,B,C,bw,I,g,f,n,j,l,p,m,i,k,o,M,y,E,N]
 rw[d]at N;by_cases s:a.raw.length<=4096;rotate_left
 ·rw[decide_eq_true (by omega)]at P
  simp-implicitDefEqProofs [L, -aE, -bG,h,x,v,w,z,A,B,C,bw,I,g,f,n,j,l,p,m,i,k,o,M,y,E,N,P]
 exact absurd ⟨by unfold aB.cR;simp[cZ,c7,h,u,t,d],s⟩ R
def W8(a:aB)(U:a.Wf)(S:G)(h:a.ae=9)(X:¬(a.cR=Y/\a.raw.length<=4096)):DF F W 8 [.A a.aq] S=J (a.gK,S):=by
 have e:a.gK=.bP [.S [],.I V 1]:=by
  have c:a.code=1:=by unfold aB.code;rw[if_neg (λq:¬_=>q (by omega)),if_pos X]
  unfold aB.gK;rw[c];rfl
 have v:=λT=>fK a.ae T;have t:=λT=>kQ a.ae T;have u:=λT=>dN a.ae T;rw[h]at v t u;rw[show cm 9=[114,101,97,100]from rfl]at v;rw[show cZ 9=O from rfl]at t;rw[show c7 9=Y from rfl]at u;have z:=kD [114,101,97,100] [];rw[decide_eq_false (by decide)]at z;have A:=bX 9 1;have B:=bX 9 2;have C:=bX 9 8;rw[decide_eq_true (by decide)]at A;rw[decide_eq_true (by decide)]at B;rw[decide_eq_true (by decide)]at C;have w:=bX a.snd 0;have n3:=bX a.b_ 0;have Q:=eQ (a.raw.length:Int) 0;have R:=eQ (a.raw.length:Int) 4096;have I:=cl a.raw;have E:=λT=>b9 a.op r9 U.op.cO gP T;have P:=λT=>b8 a.bU jh (bF.Wf.cO _ U.bU) fJ T;have i:bE ag []=J ag:=rfl;have g:bE ad []=J ad:=rfl;have o:=kG;have k:=kH;have m:=kJ;have r:=hE;have n:=kK;have j:=kL;have l:=kM;have p:=hH;rw[e,fI Gj];clear e;have hz:ag.length=10:=rfl;have M:=bK;generalize ag=ZO,ad=ZL at*;have N:∀s b,cd 8 s [.S [],.I V 1] S (S++b)=J (.bP [.S [],.I V 1],S):=λs b=>by simp[dr,bI,bD,aP,aC,aO]
 by_cases L:a.snd=0;rotate_left
 ·rw[decide_eq_true (by omega)]at w
  simp-implicitDefEqProofs [M, -aE, -bG,h,v,t,u,z,A,B,C,bw,I,i,g,o,k,m,r,n,j,l,p,N,w]
 rw[decide_eq_false (by omega)]at w;by_cases y:same a.op r9=Y;rotate_left
 ·rw[(by simpa using y:same a.op r9=false)]at E
  simp-implicitDefEqProofs [M, -aE, -bG,h,v,t,u,z,A,B,C,bw,I,i,g,o,k,m,r,n,j,l,p,N,w,E]
 rw[y]at E;by_cases d:same a.bU jh=Y;rotate_left
 ·rw[(by simpa using d:same a.bU jh=false)]at P
  simp-implicitDefEqProofs [M, -aE, -bG,h,v,t,u,z,A,B,C,bw,I,i,g,o,k,m,r,n,j,l,p,N,w,E,P]
 rw[d]at P;by_cases f:a.raw=[];rotate_left
 ·rw[decide_eq_true (by have:=BT.2 f;omega)]at Q
  simp-implicitDefEqProofs [M, -aE, -bG,h,v,t,u,z,A,B,C,bw,I,i,g,o,k,m,r,n,j,l,p,N,w,E,P,Q]
 rw[decide_eq_false (by rw[f];simp)]at Q;by_cases x:a.raw.length<=4096;rotate_left
 ·rw[decide_eq_true (by omega)]at R
  simp-implicitDefEqProofs [M, -aE, -bG,h,v,t,u,z,A,B,C,bw,I,i,g,o,k,m,r,n,j,l,p,N,w,E,P,Q,R]
 exact absurd ⟨by unfold aB.cR;simp[cZ,c7,h,L,y,d,f],x⟩ X
def TH(n:Nat)(h:n<16):adx (ru n)=(n:Int):=by
 have a:n=0\/n=1\/n=2\/n=3\/n=4\/n=5\/n=6\/n=7\/n=8\/n=9\/n=10\/n=11\/n=12\/n=13\/n=14\/n=15:=by omega
 rcases a with rfl|rfl|rfl|rfl|rfl|rfl|rfl|rfl|rfl|rfl|rfl|rfl|rfl|rfl|rfl|rfl<;>decide
def Xe(b:K):∀k,k<b.length->(dI b)[2*k]? =J (ru ((b.getD k 0).toNat/16))/\(dI b)[2*k+1]? =J (ru ((b.getD k 0).toNat %16)):=by
 induction b with
 |nil=>intro k h;simp at h
 |cons c r d=>
  intro k h;cases k with
  |zero=>exact⟨rfl,rfl⟩
  |succ k=>
   have a:=d k (by simpa using h);have e:dI (c::r)=ru (c.toNat/16)::ru (c.toNat %16)::dI r:=by simp[dI]
   rw[e,show 2*(k+1)=2*k+1+1 by omega,uY,uY,uY,uY,List.getD_cons_succ];exact a
def Xf(s:K)(i:Nat)(c:UInt8)(h:s[i]? =J c):MY (.S s) (.I V (i:Int))=J (cg c):=by simp only[MY];rw[if_neg (by omega)];simp[h,cg]
def ady(c:UInt8):aE .shl (.I V ((c.toNat/16:Nat):Int)) (.I bm 4)=J (.I V ((c.toNat/16*16:Nat):Int))/\
 aE .or (.I V ((c.toNat/16*16:Nat):Int)) (.I V ((c.toNat %16:Nat):Int))=J (.I V (c.toNat:Int)):=by
 have h:=c.toNat_lt;constructor
 ·show J (AV.I V (gh V (((c.toNat/16:Nat):Int)*16)))=_
  rw[dS (by omega)];rfl
 ·show J (AV.I V (gh V ((j0 64 ((c.toNat/16*16:Nat):Int)|||j0 64 ((c.toNat %16:Nat):Int)).toNat:Int)))=_
  rw[BitVec.toNat_or,bvo,bvo,Nat.mod_eq_of_lt (by omega),Nat.mod_eq_of_lt (by omega)];have e:c.toNat/16*16|||c.toNat %16=c.toNat:=by have:=Nat.shiftLeft_add_eq_or_of_lt (i:=4) (b:=c.toNat %16) (by omega) (c.toNat/16);rw[Nat.shiftLeft_eq]at this;rw[<-this];omega
  rw[e,dS (by omega)]
def ajk(c:UInt8):FI .u8 (.I V (c.toNat:Int))=J (cg c):=by have h:=c.toNat_lt;show J (AV.I .u8 ((c.toNat:Int)%256))=_;rw[Int.emod_eq_of_lt (by omega) (by omega)];rfl
def Ig(b:K)(hb:b.length<=1000000)(S:G):∀(n k:Nat)(d:H)(ab:ch),k+n=b.length->nF d ab (b.take k)->
 ∃c aS,nF c aS b/\DC F W (.L xb) ⟨[(0,.S (dI b)),(4,d),(5,.I V ((2*k:Nat):Int))],ab,S.length⟩ S=J (.E 0,⟨[(4,c)],aS,S.length⟩,S):=by
 have lx:=kA b;intro n;induction n with
 |zero=>
  intro k d ab M h;have e:k=b.length:=by omega
  subst e;rw[uP]at h;refine⟨d,ab,h, ?_⟩;have l:¬((2*b.length:Nat):Int)<((dI b).length:Int):=by omega
  rw[av,bf ky];generalize((2*b.length:Nat):Int)=z at*;simp[-aE,dR,l]
 |succ n x=>
  intro k d ab M h;have w:k<b.length:=by omega
  have⟨u,v⟩:=Xe b k w;have N:=(b.getD k 0).toNat_lt;have x1:=Xf _ _ _ u;have x2:=Xf _ _ _ v;have r:=λT=>A6 (ru ((b.getD k 0).toNat/16)) T;have s:=λT=>A6 (ru ((b.getD k 0).toNat %16)) T;rw[TH _ (by omega)]at r s;have⟨s1,s2⟩:=ady (b.getD k 0);have L:=ajk (b.getD k 0);have l:((2*k:Nat):Int)<((dI b).length:Int):=by omega
  have m:=ags (2*k) 1 (by omega);have o:=ags (2*k) 2 (by omega);have Q:aE .eql (.I V ((2*k+1:Nat):Int)) (.I V ((dI b).length:Int))=J (.B O):=by show J (AV.B (((2*k+1:Nat):Int)==((dI b).length:Int)))=_;congr 2;rw[beq_eq_false_iff_ne];omega
  have R:aE .lss (.I V (((b.getD k 0).toNat/16:Nat):Int)) (.I V 0)=J (.B O):=by rw[dR,decide_eq_false (by omega)]
  have U:aE .lss (.I V (((b.getD k 0).toNat %16:Nat):Int)) (.I V 0)=J (.B O):=by rw[dR,decide_eq_false (by omega)]
  have t:b.take k++[b.getD k 0]=b.take (k+1):=by rw[sP,JI,cx w];rfl
  have⟨B,C,E,p⟩:=cY.app h (xs:=fA [b.getD k 0]) (by simp[fA]) (by simp;omega) .X S;have q:nF B C (b.take (k+1)):=by rw[<-t];simpa[nF,fA]using p
  have⟨c,aS,y,A⟩:=x (k+1) B C (by omega) q;refine⟨c,aS,y, ?_⟩;have I:dq 1 [[AV.I .u8 0]] [(0,cg (b.getD k 0))]=J (fA [b.getD k 0]):=rfl;have P:MZ (.S (dI b))=J (.I V ((dI b).length:Int)):=rfl;have X:=qc;have f:tz (cg (ru ((b.getD k 0).toNat/16))):=(u_ _).y_;have g:tz (cg (ru ((b.getD k 0).toNat %16))):=(u_ _).y_;rw[show 2*(k+1)=2*k+2 by omega]at A;clear p q t h y u v x;have i:aE .add (.I V ((2*k:Nat):Int)) (.I V 1)=J (.I V ((2*k+1:Nat):Int)):=m;have j:aE .add (.I V ((2*k:Nat):Int)) (.I V 2)=J (.I V ((2*k+2:Nat):Int)):=o;clear m o;generalize fA [b.getD k 0]=XS,cg (ru ((b.getD k 0).toNat/16))=y1,cg (ru ((b.getD k 0).toNat %16))=y2,cg (b.getD k 0)=cc,(((b.getD k 0).toNat/16:Nat):Int)=h1,(((b.getD k 0).toNat %16:Nat):Int)=h2,(((b.getD k 0).toNat/16*16:Nat):Int)=h4,((b.getD k 0).toNat:Int)=h5,((2*k:Nat):Int)=z0,((2*k+1:Nat):Int)=z1,((2*k+2:Nat):Int)=z2,((dI b).length:Int)=zl,dI b=a at*;rw[av,bf ky];simp-implicitDefEqProofs [X, -aE, -MY, -MZ, -FI,dR,l,P,x1,x2,f,g,r,s,s1,s2,L,i,j,Q,R,U,I,E];rw[ak ky];simp-implicitDefEqProofs [-aE,A]
def Ih(b:K)(h:b.length<=1000000)(S:G):∃o,BD o b/\DF F W 142 [.S (dI b)] S=J (.bP [o,.aD],S):=by
 have⟨o,t,c,d⟩:=Ig b h S b.length 0 .ar [] (by omega) (.inl ⟨rfl,rfl⟩);have⟨q,f,m,e,n⟩:=cY.res c (ez b);refine⟨q,⟨e,n⟩, ?_⟩;have k:=cY.nt c;have p:cd 142 t [o,.aD] S S=J (.bP [q,.aD],S):=by
  have i:bD .aD=.aD:=rfl;have g:aP f .aD=(.aD,f):=rfl;have l:aC (.bP [q,.aD])=Y:=by
   rcases e with⟨_,rfl⟩|rfl|rfl;·rfl
   ·show(dy (fA b)&&Y)=Y
    rw[ez];rfl
   ·show(dy (fA b)&&Y)=Y
    rw[ez];rfl
  have j:bI .aD=Y:=rfl;simp[dr,k,j,i,m,g,l]
 rw[show((2*0:Nat):Int)=0 from rfl]at d;rw[fI aiv];generalize dI b=a at*;simp-implicitDefEqProofs [-aE];rw[ak ky];simp-implicitDefEqProofs [d,p]
def F0.ajl{sz:Nat}{r:H}{es:jb}(h:F0 sz r es)(ab:ch):∃a t,aK ab (.bP [r,.aD])=(.bP [a,.aD],ab++t)/\cY sz a (ab++t) es:=by
 rcases h with⟨rfl,rfl⟩|rfl|rfl;·exact⟨.ar,[],by simp[aK,dD,cy],.inl ⟨rfl,rfl⟩⟩
 ·exact⟨.sl .X sz es,[],by simp[aK,dD,cy],.inr (.inl rfl)⟩
 ·exact⟨.sl (.fr ab.length) sz es,[J es.length],rfl,.inr (.inr ⟨ab.length,rfl,by simp⟩)⟩
def tJ{S:G}{j:Nat}{ws:List K}(b:K)(s:b.length<=1000000)(c:b≠[])(q:S[j]? =J (gw (dI b::ws) .aD)):
 ∃r,BD r b/\DF F W 104 [.P j 0] S=J (r,S.set j (gw ws .aD)):=by
 have w:=ik q;have⟨o,z,y⟩:=Ih b s (S.set j (gw ws .aD));have⟨x,A,d,g⟩:=z.1.ajl [];have⟨r,t,k,l,m,n,p⟩:=nF.fin g;refine⟨r,p, ?_⟩;have i:b6 .neq (.dA cC) Y .aD .aD=J (.B O):=rfl;have v:cn (.P j 0)=J (.P j 0):=rfl;have B:∀b,(S.set j b).take S.length=S.set j b:=λb=>ob (by simp);have u:dI b≠[]:=λh=>by have:=kA b;rw[h]at this;have:=BT.2 c;simp at*;omega
 have e:=kD (dI b) [];rw[decide_eq_false u]at e;have f:cd 104 ([]++A) [x] S (S.set j (gw ws .aD))=J (r,S.set j (gw ws .aD)):=by simp only[kq,k,l,m,n,B];rfl
 try simp at d
 try simp at f
 rw[fI aid];generalize dI b=a at*;simp-implicitDefEqProofs [-bG,w,v,y,d,i,e,bJ,f]
def uy(S:G)(j:Nat)(r:Rd)(z:eR)(c:bN)(bt:ch)(u:eR):G:=S.set j (eY j r)++[z,.M c bt O,u]
def Dr(S:G)(j:Nat)(r:Rd)(z:eR)(c:bN)(bt:ch)(u:eR):gC S j r z (.M c bt O)++[u]=uy S j r z c bt u:=oH ..
def HV(S:G)(j:Nat)(r:Rd)(z b:eR):(gC S j r z b).length=S.length+2:=by simp[gC]
def uz{S:G}{j:Nat}{r:Rd}(b:S[j]? =J (eY j r))(a:Rd)(z:eR)(c:bN)(bt:ch)(u:eR):(uy S j a z c bt u)[j]? =J (eY j a):=WG b a _
theorem sD{S:G}{j:Nat}{r:Rd}(d:S[j]? =J (eY j r))(b a:Rd)(z:eR)(c:bN)(bt:ch)(u:eR):(uy S j b z c bt u).set j (eY j a)=uy S j a z c bt u:=by grind [uy,List.set_set]
theorem xh(S:G)(j:Nat)(r:Rd)(z:eR)(c:bN)(bt:ch)(u:eR):(uy S j r z c bt u)[S.length+1]? =J (.M c bt O):=gT (pZ S j r) _ 1
theorem HW(S:G)(j:Nat)(r:Rd)(z:eR)(c a:bN)(bt bt':ch)(u:eR):(uy S j r z c bt u).set (S.length+1) (.M a bt' O)=uy S j r z a bt' u:=sT (pZ S j r) _ 1 _
def WQ(S:G)(j:Nat)(r:Rd)(z:eR)(c:bN)(bt:ch)(u:eR):(uy S j r z c bt u)[S.length+2]? =J u:=gT (pZ S j r) _ 2
def WR(S:G)(j:Nat)(r:Rd)(z:eR)(c:bN)(bt:ch)(u:eR):(uy S j r z c bt u)[S.length]? =J z:=gT0 (pZ S j r) _
theorem Qc(S:G)(j:Nat)(r:Rd)(z:eR)(c:bN)(bt:ch)(u:eR)(a:Sh)(off:Nat):bk (uy S j r z c bt u) a (.P (S.length+1) off)=f_ a c off:=bV (xh S j r z c bt u) a off
def Gq(S:G)(j:Nat)(r:Rd)(z:eR)(c:bN)(bt:ch)(cs:bN)(a:Sh)(off:Nat):bk (uy S j r z c bt (.M cs [] O)) a (.P (S.length+2) off)=f_ a cs off:=bV (WQ ..) a off
theorem Zj(S:G)(j:Nat)(r:Rd)(cs:bN)(c:bN)(bt:ch)(u:eR)(a:Sh)(off:Nat):bk (uy S j r (.M cs [] O) c bt u) a (.P S.length off)=f_ a cs off:=bV (WR ..) a off
def WS(S:G)(j:Nat)(r:Rd)(z:eR)(c:bN)(bt:ch)(u:eR):(uy S j r z c bt u).take S.length=S.set j (eY j r):=by grind [uy]
def Zk(S:G)(j:Nat)(r b:Rd)(z:eR)(c a:bN)(bt bt':ch)(u:eR){d:Rd}(e:S[j]? =J (eY j d)):Dq (uy S j r z c bt u) j (S.length+1) b (.M a bt' O) []=uy S j b z a bt' u:=by grind [Dq,sD,HW]
def Et{S:G}{j:Nat}{r:Rd}{z:eR}{c a:bN}{bt:ch}{u:eR}{v:H}(f:tz v)(off n:Nat)(d:v.cells.length=n)(e:off+n<=c.length)(b:aV c off v.cells=a)(ab:ch):
 a_ ab S.length (uy S j r z c bt u) n (.P (S.length+1) off) v=J (ab,uy S j r z a bt u):=by
 grind [en,xh,HW]
def HX{S:G}{j:Nat}{r:Rd}{cs c C:bN}{bt:ch}{u:eR}(d:bQ C=Y)(a:cs.length=20)(b:C.length=20)(ab:ch):
 a_ ab S.length (uy S j r (.M cs [] O) c bt u) 20 (.P S.length 0) (.A C)=J (ab,uy S j r (.M C [] O) c bt u):=by
 grind [uy,u7,aY]
def xi{k:Int}{a b:K}{c xs ys:bN}{pr ir:H}(d:bQ c=Y)(e:bQ xs=Y)(f:bQ ys=Y)(g:aO pr=Y)(h:aO ir=Y):bQ (ji k a b c xs ys pr ir)=Y:=by rw[r8]at*;intro x hx;unfold ji at hx;simp only[BM,yC,J1,or_false]at hx;rcases hx with(rfl|rfl|rfl)|hx|hx|hx|rfl|rfl;all_goals simp_all
theorem Kj{k:Int}{a b:K}{c xs ys:bN}{pr ir:H}(d:c.map aH=c)(e:xs.map aH=xs)(f:ys.map aH=ys):(ji k a b c xs ys pr ir).map aH=ji k a b c xs ys (aH pr) (aH ir):=by simp_all[ji]
def xj{l:bF}{k:Int}{a b:K}{c xs ys:bN}{pr ir:H}(m:k=l.ae)(i:a=l.a)(j:b=l.b)(d:c.map bO=l.type.aq)(e:xs.map bO=l.base.aq)(f:ys.map bO=l.back.aq)(g:bO pr=nD l.aT)(h:bO ir=qz l.bT):
 bD (.A (ji k a b c xs ys pr ir))=.A l.aq:=by
 subst m i j;show AV.A ((ji l.ae l.a l.b c xs ys pr ir).map bO)=_;unfold ji;simp only[List.map_append,EP,NM,d,e,f,g,h];rw[bF.hO];rfl
abbrev tg:bN:=[.I V 0,.ar,.ar]
def adk{k:Int}(b:1<=k)(c:k<=10):(rn k=Y/\qb k=O/\sa k=O/\tn k=O)\/(rn k=O/\qb k=Y/\sa k=O/\tn k=O)\/(rn k=O/\qb k=O/\sa k=O/\tn k=O)\/(rn k=O/\qb k=O/\sa k=O/\tn k=Y)\/(rn k=O/\qb k=Y/\sa k=Y/\tn k=O):=by have a:k=1\/k=2\/k=3\/k=4\/k=5\/k=6\/k=7\/k=8\/k=9\/k=10:=D;rcases a with k|k|k|k|k|k|k|k|k|k<;>subst k<;>decide
def Zl:∀(d:Nat)(l:bF),l.Wf->l.ba d=Y->d<1000->∀(S:G)(j:Nat)(r:Rd)(u:K),S[j]? =J (eY j r)->pC r (l.bytes++u)->
 DF F W 190 [.P j 0,.I V (d:Int)] S=J (.A l.aq,S.set j (eY j (r.go l.bytes.length))):=by
 intro d;induction d with
 |zero=>nofun
 |succ d ih=>
  intro l hl h hd S j r u s hr;have R:=bF.fP h;have A:=hl.one;have hj:j<S.length:=(jF.1 s).1;have lb:=l.vh;have k1:=R.k1;have Y6:=R.Y6;have Q:pC (r.go 1) (aR l.a++((if rn l.ae=Y then aR l.b else[])++((if qb l.ae=Y then l.type.bytes++l.base.bytes else[])++((if sa l.ae=Y then l.back.bytes++(cB l.aT.length++l.aT.flatMap jZ)else[])++(bF.fa l.bT++u))))):=by have:=hr;rw[lb,zH]at this;simpa only[oH]using this.Zc
  have hr0:=hr;rw[lb,zH]at hr0;have hS1:∀b,(S++[b])[j]? =J (eY j r):=λb=>dc _ s;have c1:=Gl (hS1 (.M ad [] O)) hr0;rw[eX _ hj]at c1;have hk:((dt l.ae.toNat).toNat:Int)=l.ae:=by rw[zT];omega
  rw[hk]at c1;have wk:gh V l.ae=l.ae:=dS D;have d0:¬((d:Int)+1=0):=D;have hd1:gh V (d:Int)=(d:Int):=dS D;have T1:(S.set j (eY j (r.go 1))).length=S.length:=ck;have fk:bE ad [(0,1,.I V l.ae)]=J (ji l.ae [] [] tg ai ai .ar .ar):=rfl;have st0:a_ [] S.length (S.set j (eY j (r.go 1))++[.M ad [] O,.M ad [] O]) 20 (.P (S.length+1) 0) (.A (ji l.ae [] [] tg ai ai .ar .ar))=J ([],gC S j (r.go 1) (.M ad [] O) (.M (ji l.ae [] [] tg ai ai .ar .ar) [] O)):=by rw[pA T1 rfl];rfl
  have lk:∀f,bk (gC S j f (.M ad [] O) (.M (ji l.ae [] [] tg ai ai .ar .ar) [] O)) .C (.P (S.length+1) 0)=J (.I V l.ae):=λf=>kz ..;have cu:=sX l.ae;have hok:wo l.ae=Y:=by simp[wo,k1,Y6]
  rw[hok]at cu;have stu:∀f c b t y i,a_ [] S.length (uy S j f (.M ad [] O) c [] (.M [.B O,.B O,.B O,.B O] [] O)) 4 (.P (S.length+2) 0) (.A [.B b,.B t,.B y,.B i])=J ([],uy S j f (.M ad [] O) c [] (.M [.B b,.B t,.B y,.B i] [] O)):=λf c b t y i=>by unfold uy;rw[pA (pZ S j f) rfl];rfl
  have b0:b6 .neq (.dA cC) Y .aD .aD=J (.B O):=rfl;have b1:b6 .eql (.dA cC) Y .aD .aD=J (.B Y):=rfl;have lu0:∀f z c bt b t y i,bk (uy S j f z c bt (.M [.B b,.B t,.B y,.B i] [] O)) .C (.P (S.length+2) 0)=J (.B b):=λ_ _ _ _ _ _ _ _=>Gq ..;have lu1:∀f z c bt b t y i,bk (uy S j f z c bt (.M [.B b,.B t,.B y,.B i] [] O)) .C (.P (S.length+2) 1)=J (.B t):=λ_ _ _ _ _ _ _ _=>Gq ..;have lu2:∀f z c bt b t y i,bk (uy S j f z c bt (.M [.B b,.B t,.B y,.B i] [] O)) .C (.P (S.length+2) 2)=J (.B y):=λ_ _ _ _ _ _ _ _=>Gq ..;have lu3:∀f z c bt b t y i,bk (uy S j f z c bt (.M [.B b,.B t,.B y,.B i] [] O)) .C (.P (S.length+2) 3)=J (.B i):=λ_ _ _ _ _ _ _ _=>Gq ..;have er:=λ{f:Rd}{u':K}(z:eR)(c:bN)(bt)(b:eR)(h':pC f u')=>wz (uz s f z c bt b) h';have ne0:l.a≠[]:=by have:=fR R.a;intro e;have h2:=R.a;rw[e]at h2;trivial
  have c2:=λU=>Ok (o:=[]) (uz s (r.go 1) (.M ad [] O) (ji l.ae [] [] tg ai ai .ar .ar) [] U) R.a ne0 Q;simp only[sD s]at c2;have s2:∀f U,a_ [] S.length (uy S j f (.M ad [] O) (ji l.ae [] [] tg ai ai .ar .ar) [] U) 1 (.P (S.length+1) 1) (.S l.a)=J ([],uy S j f (.M ad [] O) (ji l.ae l.a [] tg ai ai .ar .ar) [] U):=λf U=>Et (Lq l.a) 1 1 rfl (by rw[mc rfl rfl rfl];omega) rfl [];have T:=Q.go;have lA:∀f z a b(ts xs ys:bN) pr ir bt U,ts.length=3->xs.length=6->ys.length=6->ts.map aH=ts->xs.map aH=xs->ys.map aH=ys->bk (uy S j f z (ji l.ae a b ts xs ys pr ir) bt U) (.A 20) (.P (S.length+1) 0)=J (.A (ji l.ae a b ts xs ys (aH pr) (aH ir))):=λf z a b ts xs ys pr ir bt U h1 h2 h3 g1 g2 g3=>by grind [Qc,mL,mc,Kj]
  have lZ:∀f a b(ts xs ys:bN) pr ir c bt U,ts.length=3->xs.length=6->ys.length=6->ts.map aH=ts->xs.map aH=xs->ys.map aH=ys->aH pr=pr->aH ir=ir->bk (uy S j f (.M (ji l.ae a b ts xs ys pr ir) [] O) c bt U) (.A 20) (.P S.length 0)=J (.A (ji l.ae a b ts xs ys pr ir)):=λf a b ts xs ys pr ir c bt U h1 h2 h3 g1 g2 g3 g4 g5=>by grind [Zj,mL,mc,Kj]
  have res:∀f n C c bt U,bD (.A C)=.A l.aq->cd 190 n [.A C] S (uy S j f (.M C [] O) c bt U)=J (.A l.aq,S.set j (eY j f)):=λf n C c bt U hC=>by simp[kq,hC,bI,WS]
  have tS:=(bM.dB l.type).ml;have tP:=(bM.dB l.type).aO;have tN:=(bM.dB l.type).jg;have xS:=(a8.dB l.base).ml;have xP:=(a8.dB l.base).aO;have xN:=(a8.dB l.base).jg;have yS:=(a8.dB l.back).ml;have yP:=(a8.dB l.back).aO;have yN:=(a8.dB l.back).jg;have z3:tg.map aH=tg:=rfl;have z3P:bQ tg=Y:=rfl;have tr:∀b t y i o,aK [] (.bP [.A (pD b t y i),.B o])=(.bP [.A (pD b t y i),.B o],[]):=λ_ _ _ _ _=>rfl;have sn:aH .ar=.ar:=rfl;have i0:l.bT=[]->bF.fa l.bT=[]:=λh=>by rw[h];rfl
  rcases adk k1 Y6 with⟨w,B,E,X⟩|⟨w,B,E,X⟩|⟨w,B,E,X⟩|⟨w,B,E,X⟩|⟨w,B,E,X⟩
  ·
    have e1:=R.b1 w;have P:=R.t0 B;have M:=R.y0 E;have e4:=R.i0 X;rw[w,B,E,X]at cu;simp only[w,B,E,i0 e4,if_true,vD,if_false,rB]at T lb;have N:=λU=>Ok (o:=l.a) (uz s ((r.go 1).go (aR l.a).length) (.M ad [] O) (ji l.ae l.a [] tg ai ai .ar .ar) [] U) e1.1 e1.2 T;simp only[sD s]at N;have R3:=T.go;have l1:∀f U,bk (uy S j f (.M ad [] O) (ji l.ae l.a [] tg ai ai .ar .ar) [] U) .C (.P (S.length+1) 1)=J (.S l.a):=λ_ _=>Qc ..;have s3:∀f U,a_ [] S.length (uy S j f (.M ad [] O) (ji l.ae l.a [] tg ai ai .ar .ar) [] U) 1 (.P (S.length+1) 2) (.S l.b)=J ([],uy S j f (.M ad [] O) (ji l.ae l.a l.b tg ai ai .ar .ar) [] U):=λf U=>Et (Lq l.b) 2 1 rfl (by rw[mc rfl rfl rfl];omega) rfl [];have hC:bD (.A (ji l.ae l.a l.b tg ai ai .ar .ar))=.A l.aq:=xj rfl rfl rfl (by rw[P.1];rfl) (by rw[P.2];rfl) (by rw[M.1];rfl) (by rw[M.2];rfl) (by rw[e4];rfl);have g:=λf z U=>lA f z l.a l.b tg ai ai .ar .ar [] U rfl rfl rfl rfl rfl rfl;have I:=λf c U=>lZ f l.a l.b tg ai ai .ar .ar c [] U rfl rfl rfl rfl rfl rfl rfl rfl;have L:=λf c U=>HX (S:=S) (j:=j) (r:=f) (cs:=ad) (c:=c) (bt:=[]) (u:=U) (C:=ji l.ae l.a l.b tg ai ai .ar .ar) (xi rfl rfl rfl rfl rfl) rfl (mc rfl rfl rfl) [];have v:=λU=>er (.M ad [] O) (ji l.ae [] [] tg ai ai .ar .ar) [] U Q;have p:=λU=>er (.M ad [] O) (ji l.ae l.a l.b tg ai ai .ar .ar) [] U R3;have rr:=λf n c U=>res f n _ c [] U hC;simp only[sn]at g;rw[jE NX];rw[lb];generalize hc0:ji l.ae [] [] tg ai ai .ar .ar=C0,Z4:ji l.ae l.a [] tg ai ai .ar .ar=C1,hc2:ji l.ae l.a l.b tg ai ai .ar .ar=C2 at*;simp at c2 N p g;simp[d0,c1,wk,fk,st0,lk,cu,tr,bw,HV,Dr,stu,v,b0,c2,s2,lu0,lu1,lu2,lu3,l1,N,s3,kX,p,g,L,I,rr]
    grind
  ·
    have e1:=R.b0 w;have P:=R.t1 B;have M:=R.y0 E;have e4:=R.i0 X;have fr:=nq P;rw[w,B,E,X]at cu;simp only[w,B,E,i0 e4,if_true,vD,if_false,rB,oH]at T lb;have N:=λU=>Kh l.type A.type fr.2 (uz s ((r.go 1).go (aR l.a).length) (.M ad [] O) (ji l.ae l.a [] tg ai ai .ar .ar) [] U) T;simp only[sD s]at N;have R3:=T.go;have s3:∀f U,a_ [] S.length (uy S j f (.M ad [] O) (ji l.ae l.a [] tg ai ai .ar .ar) [] U) 3 (.P (S.length+1) 3) (.A l.type.aq)=J ([],uy S j f (.M ad [] O) (ji l.ae l.a [] l.type.aq ai ai .ar .ar) [] U):=λf U=>Et (xT (bM.dB l.type)) 3 3 ck (by rw[mc rfl rfl rfl];omega) (WK rfl ck) [];have R4:=R3.go
    have c4:=λU=>AS (m:=S.length+1) l.base A.base fr.1 (uz s (((r.go 1).go (aR l.a).length).go l.type.bytes.length) (.M ad [] O) (ji l.ae l.a [] l.type.aq ai ai .ar .ar) [] U) R3 219 rfl rfl (by
     refine wA (k:=l.ae) (a:=l.a) (b:=[]) (t:=l.type) (xs:=ai) (ys:=ai) (pr:=.ar) (ir:=.ar) (bt:=[]) (q:=O) ?_ l.base A.base A.type P;unfold gC
     grind [sD,xh])
    simp only[sD s]at c4;have s4:∀f U,a_ [] S.length (uy S j f (.M ad [] O) (ji l.ae l.a [] l.type.aq ai ai .ar .ar) [] U) 6 (.P (S.length+1) 6) (.A l.base.aq)=J ([],uy S j f (.M ad [] O) (ji l.ae l.a [] l.type.aq l.base.aq ai .ar .ar) [] U):=λf U=>Et (xT (a8.dB l.base)) 6 6 ck (by rw[mc ck rfl rfl];omega) (WL ck rfl ck) [];have hC:bD (.A (ji l.ae l.a [] l.type.aq l.base.aq ai .ar .ar))=.A l.aq:=xj rfl rfl e1.symm tN xN (by rw[M.1];rfl) (by rw[M.2];rfl) (by rw[e4];rfl);have g:=λf z U=>lA f z l.a [] l.type.aq l.base.aq ai .ar .ar [] U ck ck rfl tS xS rfl;have I:=λf c U=>lZ f l.a [] l.type.aq l.base.aq ai .ar .ar c [] U ck ck rfl tS xS rfl rfl rfl;have L:=λf c U=>HX (S:=S) (j:=j) (r:=f) (cs:=ad) (c:=c) (bt:=[]) (u:=U) (C:=ji l.ae l.a [] l.type.aq l.base.aq ai .ar .ar) (xi tP xP rfl rfl rfl) rfl (mc ck ck rfl) [];have v:=λU=>er (.M ad [] O) (ji l.ae [] [] tg ai ai .ar .ar) [] U Q;have p:=λU=>er (.M ad [] O) (ji l.ae l.a [] l.type.aq l.base.aq ai .ar .ar) [] U R4;have rr:=λf n c U=>res f n _ c [] U hC;simp only[sn]at g;rw[jE NX];rw[lb];generalize hc0:ji l.ae [] [] tg ai ai .ar .ar=C0,Z4:ji l.ae l.a [] tg ai ai .ar .ar=C1,hc2:ji l.ae l.a [] l.type.aq ai ai .ar .ar=C2,hc3:ji l.ae l.a [] l.type.aq l.base.aq ai .ar .ar=C3 at*;simp at c2 N c4 p g;simp[d0,c1,wk,fk,st0,lk,cu,tr,bw,HV,Dr,stu,v,b0,c2,s2,lu0,lu1,lu2,lu3,N,s3,c4,s4,kX,p,g,L,I,rr]
    grind
  ·
    have e1:=R.b0 w;have P:=R.t0 B;have M:=R.y0 E;have e4:=R.i0 X;rw[w,B,E,X]at cu;simp only[w,B,E,i0 e4,vD,if_false,rB]at T lb;have hC:bD (.A (ji l.ae l.a [] tg ai ai .ar .ar))=.A l.aq:=xj rfl rfl e1.symm (by rw[P.1];rfl) (by rw[P.2];rfl) (by rw[M.1];rfl) (by rw[M.2];rfl) (by rw[e4];rfl);have g:=λf z U=>lA f z l.a [] tg ai ai .ar .ar [] U rfl rfl rfl rfl rfl rfl;have I:=λf c U=>lZ f l.a [] tg ai ai .ar .ar c [] U rfl rfl rfl rfl rfl rfl rfl rfl;have L:=λf c U=>HX (S:=S) (j:=j) (r:=f) (cs:=ad) (c:=c) (bt:=[]) (u:=U) (C:=ji l.ae l.a [] tg ai ai .ar .ar) (xi rfl rfl rfl rfl rfl) rfl (mc rfl rfl rfl) [];have v:=λU=>er (.M ad [] O) (ji l.ae [] [] tg ai ai .ar .ar) [] U Q;have p:=λU=>er (.M ad [] O) (ji l.ae l.a [] tg ai ai .ar .ar) [] U T;have rr:=λf n c U=>res f n _ c [] U hC;simp only[sn]at g;rw[jE NX];rw[lb];generalize hc0:ji l.ae [] [] tg ai ai .ar .ar=C0,Z4:ji l.ae l.a [] tg ai ai .ar .ar=C1 at*;simp at c2 p g;simp[d0,c1,wk,fk,st0,lk,cu,tr,bw,HV,Dr,stu,v,b0,c2,s2,lu0,lu1,lu2,lu3,kX,p,g,L,I,rr]
    grind
  ·
    have e1:=R.b0 w;have P:=R.t0 B;have M:=R.y0 E;have e4:=R.i1 X;obtain⟨x,ex⟩:∃x,l.bT=[x]:=zS.1 e4;have eb:bF.fa l.bT=x.bytes:=by rw[ex];simp[bF.fa]
    rw[w,B,E,X]at cu;simp only[w,B,E,eb,vD,if_false,rB]at T lb;have N:=λU=>ih x (hl.all x (by grind)) (R.all x (by grind)) D _ j ((r.go 1).go (aR l.a).length) u (uz s ((r.go 1).go (aR l.a).length) (.M ad [] O) (ji l.ae l.a [] tg ai ai .ar .ar) [] U) T;simp only[sD s]at N;have R3:=T.go;have bo:dq 20 [ad] [(0,.A x.aq)]=J [x.aq]:=by have:=(bF.dB x).ml;simp[dq,aH,AV.cells,fL]
    have px:aO (.sl .X 20 [x.aq])=Y:=by simp[aO,dy,(bF.dB x).aO]
    have s3:∀f U,a_ [] S.length (uy S j f (.M ad [] O) (ji l.ae l.a [] tg ai ai .ar .ar) [] U) 1 (.P (S.length+1) 19) (.sl .X 20 [x.aq])=J ([],uy S j f (.M ad [] O) (ji l.ae l.a [] tg ai ai .ar (.sl .X 20 [x.aq])) [] U):=λf U=>by unfold a_;simp only[xh];rw[if_pos ⟨rfl,rfl,by rw[mc rfl rfl rfl];omega,.inl D⟩];show J ([],(uy ..).set _ (.M (aV _ 19 [_]) [] O))=_;rw[HW,adi rfl rfl rfl];rfl
    have hC:bD (.A (ji l.ae l.a [] tg ai ai .ar (.sl .X 20 [x.aq])))=.A l.aq:=xj rfl rfl e1.symm (by rw[P.1];rfl) (by rw[P.2];rfl) (by rw[M.1];rfl) (by rw[M.2];rfl) (by rw[ex];rfl);have g:=λf z U=>lA f z l.a [] tg ai ai .ar (.sl .X 20 [x.aq]) [] U rfl rfl rfl rfl rfl rfl;have I:=λf c U=>lZ f l.a [] tg ai ai .ar (.sl .X 20 [x.aq]) c [] U rfl rfl rfl rfl rfl rfl rfl rfl;have L:=λf c U=>HX (S:=S) (j:=j) (r:=f) (cs:=ad) (c:=c) (bt:=[]) (u:=U) (C:=ji l.ae l.a [] tg ai ai .ar (.sl .X 20 [x.aq])) (xi rfl rfl rfl rfl px) rfl (mc rfl rfl rfl) [];have v:=λU=>er (.M ad [] O) (ji l.ae [] [] tg ai ai .ar .ar) [] U Q;have p:=λU=>er (.M ad [] O) (ji l.ae l.a [] tg ai ai .ar (.sl .X 20 [x.aq])) [] U R3;have rr:=λf n c U=>res f n _ c [] U hC;have st9:aH (.sl .X 20 [x.aq])=.sl .X 20 [x.aq]:=rfl;simp only[st9]at g;simp only[sn]at g;rw[jE NX];rw[lb];generalize hc0:ji l.ae [] [] tg ai ai .ar .ar=C0,Z4:ji l.ae l.a [] tg ai ai .ar .ar=C1,hc2:ji l.ae l.a [] tg ai ai .ar (.sl .X 20 [x.aq])=C2 at*;simp at c2 N p g bo;simp[d0,hd1,c1,wk,fk,st0,lk,cu,tr,bw,HV,Dr,stu,v,b0,c2,s2,lu0,lu1,lu2,lu3,N,s3,bo,kX,p,g,L,I,rr]
    grind
  ·
    have e1:=R.b0 w;have P:=R.t1 B;have M:=R.y1 E;have e4:=R.i0 X;have fr:=nq P;have tk1:=Hs P;rw[w,B,E,X]at cu;simp only[w,B,E,i0 e4,if_true,vD,if_false,rB,oH]at T lb;have N:=λU=>Kh l.type A.type fr.2 (uz s ((r.go 1).go (aR l.a).length) (.M ad [] O) (ji l.ae l.a [] tg ai ai .ar .ar) [] U) T;simp only[sD s]at N;have R3:=T.go;have s3:∀f U,a_ [] S.length (uy S j f (.M ad [] O) (ji l.ae l.a [] tg ai ai .ar .ar) [] U) 3 (.P (S.length+1) 3) (.A l.type.aq)=J ([],uy S j f (.M ad [] O) (ji l.ae l.a [] l.type.aq ai ai .ar .ar) [] U):=λf U=>Et (xT (bM.dB l.type)) 3 3 ck (by rw[mc rfl rfl rfl];omega) (WK rfl ck) [];have R4:=R3.go;have ert:=λU=>er (.M ad [] O) (ji l.ae l.a [] l.type.aq ai ai .ar .ar) [] U R3;have l3:∀f U,bk (uy S j f (.M ad [] O) (ji l.ae l.a [] l.type.aq ai ai .ar .ar) [] U) (.A 3) (.P (S.length+1) 3)=J (.A l.type.aq):=λf U=>by rw[Qc];exact aaZ ck tS
    have csc:=yF l.type;have hsc:(aN (1<=l.type.ae)&&aN (l.type.ae<=4))=Y:=by grind
    rw[hsc]at csc;have c4:=λU=>AS (m:=S.length+1) l.base A.base fr.1 (uz s (((r.go 1).go (aR l.a).length).go l.type.bytes.length) (.M ad [] O) (ji l.ae l.a [] l.type.aq ai ai .ar .ar) [] U) R3 219 rfl rfl (by refine wA (k:=l.ae) (a:=l.a) (b:=[]) (t:=l.type) (xs:=ai) (ys:=ai) (pr:=.ar) (ir:=.ar) (bt:=[]) (q:=O) ?_ l.base A.base A.type P;unfold gC;refine dc _ ?_;rw[sD s];exact xh ..)
    simp only[sD s]at c4;have s4:∀f U,a_ [] S.length (uy S j f (.M ad [] O) (ji l.ae l.a [] l.type.aq ai ai .ar .ar) [] U) 6 (.P (S.length+1) 6) (.A l.base.aq)=J ([],uy S j f (.M ad [] O) (ji l.ae l.a [] l.type.aq l.base.aq ai .ar .ar) [] U):=λf U=>Et (xT (a8.dB l.base)) 6 6 ck (by rw[mc ck rfl rfl];omega) (WL ck rfl ck) [];have jm:j≠S.length+1:=D;have c5:=λU=>WO l A M.1 M.2.1 M.2.2.1 M.2.2.2 (k:=l.ae) (a:=l.a) (b:=[]) (xs:=l.base.aq) (ys:=ai) (ir:=.ar) ck rfl (uz s ((((r.go 1).go (aR l.a).length).go l.type.bytes.length).go l.base.bytes.length) (.M ad [] O) (ji l.ae l.a [] l.type.aq l.base.aq ai .ar .ar) [] U) (xh ..) jm R4;simp only[Zk S j _ _ _ _ _ _ _ _ s]at c5;have R5:pC (((((r.go 1).go (aR l.a).length).go l.type.bytes.length).go l.base.bytes.length).go (l.back.bytes.length+((cB l.aT.length).length+(l.aT.flatMap jZ).length))) u:=by
     have:=R4.go.go.go
     grind [Rd.go]
    generalize adf:bS (S.length+1) 0 12 (Es l.aT)=row at*;have hrs:aH row=gO 12 (Es l.aT):=by rw[<-adf];exact p_ ..
    have q1:=nL (sz:=12) (Ki l.aT);have hC:bD (.A (ji l.ae l.a [] l.type.aq l.base.aq l.back.aq (gO 12 (Es l.aT)) .ar))=.A l.aq:=xj rfl rfl e1.symm tN xN yN (Tw _) (by rw[e4];rfl);have g:=λf z U=>lA f z l.a [] l.type.aq l.base.aq l.back.aq row .ar (L9 l.aT.length) U ck ck ck tS xS yS;have I:=λf c U=>lZ f l.a [] l.type.aq l.base.aq l.back.aq (gO 12 (Es l.aT)) .ar c (L9 l.aT.length) U ck ck ck tS xS yS q1.1 rfl;have L:=λf c U=>HX (S:=S) (j:=j) (r:=f) (cs:=ad) (c:=c) (bt:=L9 l.aT.length) (u:=U) (C:=ji l.ae l.a [] l.type.aq l.base.aq l.back.aq (gO 12 (Es l.aT)) .ar) (xi tP xP yP q1.2 rfl) rfl (mc ck ck ck) [];have v:=λU=>er (.M ad [] O) (ji l.ae [] [] tg ai ai .ar .ar) [] U Q;have p:=λU=>er (.M ad [] O) (ji l.ae l.a [] l.type.aq l.base.aq l.back.aq row .ar) (L9 l.aT.length) U R5;have rr:=λf n c U=>res f n _ c (L9 l.aT.length) U hC;simp only[sn,hrs]at g;rw[jE NX];rw[lb];generalize hc0:ji l.ae [] [] tg ai ai .ar .ar=C0,Z4:ji l.ae l.a [] tg ai ai .ar .ar=C1,hc2:ji l.ae l.a [] l.type.aq ai ai .ar .ar=C2,hc3:ji l.ae l.a [] l.type.aq l.base.aq ai .ar .ar=C3,hc4:ji l.ae l.a [] l.type.aq l.base.aq l.back.aq row .ar=C4,hc5:ji l.ae l.a [] l.type.aq l.base.aq l.back.aq (gO 12 (Es l.aT)) .ar=C5 at*;simp at c2 N ert c4 g;simp[-List.length_flatMap]at c5 p;simp[d0,c1,wk,fk,st0,lk,cu,tr,dH,bw,HV,Dr,stu,v,b0,b1,c2,s2,lu0,lu1,lu2,lu3,N,s3,ert,l3,csc,c4,s4,c5,kX,p,g,L,I,rr, -List.length_flatMap]
    grind
def Ol{S:G}{j:Nat}{r:Rd}{u:K}(v:bF)(i:v.Wf)(h:v.ba 5=Y)(d:S[j]? =J (eY j r))(f:pC r (v.bytes++u)):
 DF F W 146 [.P j 0] S=J (.A v.aq,S.set j (eY j (r.go v.bytes.length))):=by
 have e:=Zl 5 v i h D (S++[.M ad [] O]) j r u (dc _ d) f;rw[eX _ ((jF.1 d).1)]at e;have c:(S.set j (eY j (r.go v.bytes.length))).length=S.length:=ck;have m:=u7 c (bF.dB v).aO [.M ad [] O] 0 [] S.length 20;have l:bk (S.set j (eY j (r.go v.bytes.length))++[.M v.aq [] O]) (.A 20) (.P S.length 0)=J (.A v.aq):=by rw[YG c];simp
 have k:∀b a,(S.set j b++a).take S.length=S.set j b:=λb a=>by simp
 have g:aV ad 0 v.aq=v.aq:=aY ck;rw[fI aiz];simp_all
def OA(o:l9)(z:o.Wf)(h:De o=Y)(hl:(jW o).length<=4096)(S:G):DF F W 105 [cq (jW o)] S=J (.bP [.A o.aq,.aD],S):=by
 have C:=cl (jW o);have s:=eQ ((jW o).length:Int) 4096;rw[decide_eq_false (by omega)]at s;have q:=Fl (jW o) (by omega) (S++[.M ag [] O]);have f:pC ⟨(jW o),0,Z⟩ ((jW o)++[]):=⟨rfl,by show(jW o).length<=_;omega,rA _,by simp[Rd.left]⟩;have u:(S++[.M ag [] O]++[eY (S.length+1) ⟨(jW o),0,Z⟩])[S.length+1]? =J (eY (S.length+1) ⟨(jW o),0,Z⟩):=by simp
 have g:=aiY o z h u f;have c:∀r,(S++[eR.M ag [] O]++[eY (S.length+1) ⟨(jW o),0,Z⟩]).set (S.length+1) (eY (S.length+1) r)=S++[eR.M ag [] O,eY (S.length+1) r]:=λr=>by simp
 rw[c]at g;have n:=f.go;have e:o.aq.length=10:=by simp
 have d:mC o.aq:=l9.dB o;have M:=cG e d;have k:ag.length=10:=rfl;have m:∀r,a_ [] S.length (S++[.M ag [] O,eY (S.length+1) r,.M ag [] O]) 10 (.P (S.length+2) 0) (.A o.aq)=J ([],S++[.M ag [] O,eY (S.length+1) r,.M o.aq [] O]):=λr=>by rw[pA (S:=S) rfl d.aO];simp[e,k,aY]
 have x:=λX=>Vc (S:=S++[.M ag [] O,eY (S.length+1) ((⟨(jW o),0,Z⟩:Rd).go (jW o).length),X]) (j:=S.length+1) (by simp) n;have l:∀r X,a_ [] S.length (S++[.M ag [] O,eY (S.length+1) r,X]) 10 (.P S.length 0) (.A o.aq)=J ([],S++[.M o.aq [] O,eY (S.length+1) r,X]):=λr X=>by rw[u7 (S:=S) rfl d.aO];simp[e,k,aY]
 have v:b6 .neq (.dA cC) Y .aD .aD=J (.B O):=rfl;have Q:∀a,cd 105 [] [.A o.aq,.aD] S (S++a)=J (.bP [.A o.aq,.aD],S):=λa=>by have E:bD (.A o.aq)=.A o.aq:=d.agg.bD;have N:=d.aO;have I:=d.jg;simp[dr,E,bI,bD,aP,aC,aO,N,I]
 have R:∀t i,aK t (.P i 0)=(.P i 0,t):=λ_ _=>rfl;have y:∀T i,b7 T (.P i 0)=J (.P i 0):=λ_ _=>rfl;have A:∀T i,ca T (.P i 0)=T:=λ_ _=>rfl;have U:∀T p i,bC T p (.P i 0)=p:=λ_ _ _=>rfl;have L:∀i,cJ (.P i 0)=.P i 0:=λ_=>rfl;have w:=(va (jW o)).y_;rw[fI aie];clear f n u c;generalize ag=b at*;try simp at q g
 generalize(⟨(jW o),0,Z⟩:Rd).go (jW o).length=P,cq (jW o)=B at*;generalize eY (S.length+1) ⟨(jW o),0,Z⟩=X0,eY (S.length+1) P=X1 at*;generalize o.aq=OE at*;simp-implicitDefEqProofs [-aE,C,s,w,q,g,m,x,l,v,Q,e,d,M,d.agg,k,R,y,A,U,L,dd,cz]
def Jg(o:bF)(z:o.Wf)(h:o.ba 5=Y)(hl:o.bytes.length<=4096)(S:G):DF F W 106 [cq o.bytes] S=J (.bP [.A o.aq,.aD],S):=by
 have C:=cl o.bytes;have s:=eQ (o.bytes.length:Int) 4096;rw[decide_eq_false (by omega)]at s;have q:=Fl o.bytes (by omega) (S++[.M ad [] O]);have f:pC ⟨o.bytes,0,Z⟩ (o.bytes++[]):=⟨rfl,by show o.bytes.length<=_;omega,rA _,by simp[Rd.left]⟩;have u:(S++[.M ad [] O]++[eY (S.length+1) ⟨o.bytes,0,Z⟩])[S.length+1]? =J (eY (S.length+1) ⟨o.bytes,0,Z⟩):=by simp
 have g:=Ol o z h u f;have c:∀r,(S++[eR.M ad [] O]++[eY (S.length+1) ⟨o.bytes,0,Z⟩]).set (S.length+1) (eY (S.length+1) r)=S++[eR.M ad [] O,eY (S.length+1) r]:=λr=>by simp
 rw[c]at g;have n:=f.go;have e:o.aq.length=20:=by simp
 have d:mC o.aq:=bF.dB o;have M:=cG e d;have k:ad.length=20:=rfl;have m:∀r,a_ [] S.length (S++[.M ad [] O,eY (S.length+1) r,.M ad [] O]) 20 (.P (S.length+2) 0) (.A o.aq)=J ([],S++[.M ad [] O,eY (S.length+1) r,.M o.aq [] O]):=λr=>by rw[pA (S:=S) rfl d.aO];simp[e,k,aY]
 have x:=λX=>Vc (S:=S++[.M ad [] O,eY (S.length+1) ((⟨o.bytes,0,Z⟩:Rd).go o.bytes.length),X]) (j:=S.length+1) (by simp) n;have l:∀r X,a_ [] S.length (S++[.M ad [] O,eY (S.length+1) r,X]) 20 (.P S.length 0) (.A o.aq)=J ([],S++[.M o.aq [] O,eY (S.length+1) r,X]):=λr X=>by rw[u7 (S:=S) rfl d.aO];simp[e,k,aY]
 have v:b6 .neq (.dA cC) Y .aD .aD=J (.B O):=rfl;have Q:∀a,cd 106 [] [.A o.aq,.aD] S (S++a)=J (.bP [.A o.aq,.aD],S):=λa=>by have E:bD (.A o.aq)=.A o.aq:=d.agg.bD;have N:=d.aO;have I:=d.jg;simp[dr,E,bI,bD,aP,aC,aO,N,I]
 have R:∀t i,aK t (.P i 0)=(.P i 0,t):=λ_ _=>rfl;have y:∀T i,b7 T (.P i 0)=J (.P i 0):=λ_ _=>rfl;have A:∀T i,ca T (.P i 0)=T:=λ_ _=>rfl;have U:∀T p i,bC T p (.P i 0)=p:=λ_ _ _=>rfl;have L:∀i,cJ (.P i 0)=.P i 0:=λ_=>rfl;have w:=(va o.bytes).y_;rw[fI aif];clear f n u c;generalize ad=b at*;try simp at q g
 generalize(⟨o.bytes,0,Z⟩:Rd).go o.bytes.length=P,cq o.bytes=B at*;generalize eY (S.length+1) ⟨o.bytes,0,Z⟩=X0,eY (S.length+1) P=X1 at*;generalize o.aq=OE at*;simp-implicitDefEqProofs [-aE,C,s,w,q,g,m,x,l,v,Q,e,d,M,d.agg,k,R,y,A,U,L,dd,cz]
section
def yX(S:G):DF F W 107 [.aD] S=J (.aD,S):=by have a:b6 .eql (.dA cC) Y .aD .aD=J (.B Y):=rfl;rw[fI aih];simp-implicitDefEqProofs [a]
section
variable{S:G}{j:Nat}{ws:List K}
def adz(b:S[j]? =J (gw ws .aD))(ab:ch)(nb:Nat):a_ ab nb S 1 (.P j 1) .aD=J (ab,S):=by
 have e:S.set j (gw ws .aD)=S:=by
  apply G6;intro i;by_cases h:i=j
  ·subst h
   rw[E8 (jF.1 b).1,b]
  ·rw[CT (λq=>h q.symm)]
 have a:=b;unfold gw at a;simp only[a_,a];rw[if_pos ⟨rfl,rfl,by simp,.inr rfl⟩];show J (ab,S.set j (gw ws .aD))=_;rw[e]
def xl(b:S[j]? =J (gw ws .aD)):DF F W 103 [.P j 0,.aD] S=J (.bP [],S):=by
 have d:=tI b rfl;have e:=λa g=>adz b a g;have c:b6 .eql (.dA cC) Y .aD .aD=J (.B Y):=rfl;have f:cn (.P j 0)=J (.P j 0):=rfl;rw[jE aic];have h:cd 103 [] [] S S=J (.bP [],S):=by simp[cd,aJ,bY,aC]
 simp-implicitDefEqProofs [d,e,c,f,h]
def Mh(b:K)(M:b.length<=4096)(c:S[j]? =J (gw ((if b=[]then[45]else dI b)::ws) .aD)):
 ∃r,BD r b/\DF F W 72 [.P j 0] S=J (r,S.set j (gw ws .aD)):=by
 have m:cn (.P j 0)=J (.P j 0):=rfl;have u:∀b,(S.set j b).take S.length=S.set j b:=λb=>ob (by simp);have n:∀T x,bk T .C (.dP .N [.S x] 0)=J (.S x):=λ_ _=>rfl;by_cases h:b=[]
 ·subst h
  rw[if_pos rfl]at c;refine⟨.ar,⟨.inl ⟨rfl,rfl⟩,rfl⟩, ?_⟩;have e:=sr c;have f:=Dv [45] ws;have B:=ik c;have d:=kD [45] [45];rw[decide_eq_true rfl]at d;rw[fI ah8];generalize AV.sl .N 1 (strs ([45]::ws))=X at*;simp-implicitDefEqProofs [-bG,e,f,B,d,m,n,u,kq,bI,bD,aP,aC,aO]
 ·rw[if_neg h]at c
  have⟨o,I,E⟩:=tJ b (by omega) h c;have⟨C,L,i,k⟩:=I.1.take [];have⟨r,t,v,w,y,z,A⟩:=nF.fin k;refine⟨r,A, ?_⟩;have e:=sr c;have f:=Dv (dI b) ws;have g:dI b≠[45]:=λq=>by have:=kA b;rw[q]at this;simp at this;omega
  have d:=kD (dI b) [45];rw[decide_eq_false g]at d;have p:=cY.len k;rw[Ll]at p;have l:=eQ (b.length:Int) 4096;rw[decide_eq_false (by omega)]at l;have s:cd 72 ([]++L) [C] S (S.set j (gw ws .aD))=J (r,S.set j (gw ws .aD)):=by simp only[kq,v,w,y,z,u];rfl
  try simp at i
  try simp at s
  rw[fI ah8];generalize AV.sl .N 1 (strs (dI b::ws))=X,dI b=a at*;simp-implicitDefEqProofs [-bG, -aE,e,f,E,i,d,p,l,m,n,s]
end
def EB{S:G}{j m:Nat}{ws:List K}{C:bN}(o:l9)(Q:o.Wf)(h:De o=Y)(N:(jW o).length<=4096)(b:j≠m)(s:S[j]? =J (gw (dI (jW o)::ws) .aD))(u:S[m]? =J (.M C [] O))(hC:C.length=35):
 DF F W 71 [.P j 0,.P m 0,.A (aF 1)] S=J (.bP [],(S.set j (gw ws .aD)).set m (.M (aV C 4 o.aq) [] O)):=by
 have a:j<S.length:=(jF.1 s).1;have c:m<S.length:=(jF.1 u).1;have⟨r,ro,n⟩:=tJ (S:=S++[.M (aF 1) [] O]) (j:=j) (ws:=ws) (jW o) (by omega) (Me o) (dc _ s);rw[eX _ a]at n;have⟨o1,t1,p,d⟩:=ro.1.take [];have E:=cY.z6 d;have I:cJ (aH o1)=cq (jW o):=cY.cJ d;have L:=cY.lock d;have M:=cY.oM d;have e:(S.set j (gw ws .aD)++[.M (aF 1) [] O])[j]? =J (gw ws .aD):=by rw[wI (by simpa using a),E8 a]
 have X:=tI e rfl;have w:b6 .neq (.dA cC) Y .aD .aD=J (.B O):=rfl;have P:∀i,cn (.P i 0)=J (.P i 0):=λ_=>rfl;have z:=λT=>OA o Q h N T;have v:mC o.aq:=l9.dB o;have oe:o.aq.length=10:=by simp
 have tq:∀t,aK t (.bP [.A o.aq,.aD])=(.bP [.A o.aq,.aD],t):=λ_=>rfl;have g:(S.set j (gw ws .aD)++[.M (aF 1) [] O])[m]? =J (.M C [] O):=by rw[wI (by simpa using c),CT b,u]
 have st:∀ab,a_ ab S.length (S.set j (gw ws .aD)++[.M (aF 1) [] O]) 10 (.P m 4) (.A o.aq)=J (ab,(S.set j (gw ws .aD)).set m (.M (aV C 4 o.aq) [] O)++[.M (aF 1) [] O]):=λab=>by rw[en v.agg g,if_pos ⟨by simpa using oe,by omega⟩,eX _ (by simpa using c)];rfl
 have f:((S.set j (gw ws .aD)).set m (.M (aV C 4 o.aq) [] O)++[.M (aF 1) [] O])[j]? =J (gw ws .aD):=by rw[wI (by simpa using a),CT (λq=>b q.symm),E8 a]
 have B:=xl f;have x:=yX;have R:(aF 1).length=6:=rfl;have A:=fo 1;have y:(AV.A (aF 1)).cells=aF 1:=rfl;have u3:(aF 1)[3]? =J (.B Y):=rfl;have u4:(aF 1)[4]? =J (.B O):=rfl;have rs:∀ab,cd 71 ab [] S ((S.set j (gw ws .aD)).set m (.M (aV C 4 o.aq) [] O)++[.M (aF 1) [] O])=J (.bP [],(S.set j (gw ws .aD)).set m (.M (aV C 4 o.aq) [] O)):=λab=>by simp[cd,aJ,bY,aC]
 have k:bk (S.set j (gw ws .aD)++[.M (aF 1) [] O]) .C (.P S.length 3)=J (.B Y):=by have:=bV (S:=S.set j (gw ws .aD)++[.M (aF 1) [] O]) (i:=S.length) (cs:=aF 1) (ab:=[]) (l:=O) (by rw[pG (by simp)];simp) .C 3;rw[this];rfl
 try simp at p
 try simp at n
 rw[Py ah7];generalize(S.set j (gw ws .aD)).set m (.M (aV C 4 o.aq) [] O)=S3,S.set j (gw ws .aD)=S2,aF 1=U at*;simp-implicitDefEqProofs [R,A,y,n,p,X,w,P,k,E,I,L,M,dd,cz,z,tq,bJ,st,x,B,rs,v.agg]
def Cq{S:G}{j m:Nat}{ws:List K}{C:bN}(o:bF)(Q:o.Wf)(h:o.ba 5=Y)(N:(o.bytes).length<=4096)(b:j≠m)(s:S[j]? =J (gw (dI (o.bytes)::ws) .aD))(u:S[m]? =J (.M C [] O))(hC:C.length=35):
 DF F W 71 [.P j 0,.P m 0,.A (aF 2)] S=J (.bP [],(S.set j (gw ws .aD)).set m (.M (aV C 14 o.aq) [] O)):=by
 have a:j<S.length:=(jF.1 s).1;have c:m<S.length:=(jF.1 u).1;have⟨r,ro,n⟩:=tJ (S:=S++[.M (aF 2) [] O]) (j:=j) (ws:=ws) (o.bytes) (by omega) (bF.jM o) (dc _ s);rw[eX _ a]at n;have⟨o1,t1,p,d⟩:=ro.1.take [];have E:=cY.z6 d;have I:cJ (aH o1)=cq (o.bytes):=cY.cJ d;have L:=cY.lock d;have M:=cY.oM d;have e:(S.set j (gw ws .aD)++[.M (aF 2) [] O])[j]? =J (gw ws .aD):=by rw[wI (by simpa using a),E8 a]
 have X:=tI e rfl;have w:b6 .neq (.dA cC) Y .aD .aD=J (.B O):=rfl;have P:∀i,cn (.P i 0)=J (.P i 0):=λ_=>rfl;have z:=λT=>Jg o Q h N T;have v:mC o.aq:=bF.dB o;have oe:o.aq.length=20:=by simp
 have tq:∀t,aK t (.bP [.A o.aq,.aD])=(.bP [.A o.aq,.aD],t):=λ_=>rfl;have g:(S.set j (gw ws .aD)++[.M (aF 2) [] O])[m]? =J (.M C [] O):=by rw[wI (by simpa using c),CT b,u]
 have st:∀ab,a_ ab S.length (S.set j (gw ws .aD)++[.M (aF 2) [] O]) 20 (.P m 14) (.A o.aq)=J (ab,(S.set j (gw ws .aD)).set m (.M (aV C 14 o.aq) [] O)++[.M (aF 2) [] O]):=λab=>by rw[en v.agg g,if_pos ⟨by simpa using oe,by omega⟩,eX _ (by simpa using c)];rfl
 have f:((S.set j (gw ws .aD)).set m (.M (aV C 14 o.aq) [] O)++[.M (aF 2) [] O])[j]? =J (gw ws .aD):=by rw[wI (by simpa using a),CT (λq=>b q.symm),E8 a]
 have B:=xl f;have x:=yX;have R:(aF 2).length=6:=rfl;have A:=fo 2;have y:(AV.A (aF 2)).cells=aF 2:=rfl;have u3:(aF 2)[3]? =J (.B O):=rfl;have u4:(aF 2)[4]? =J (.B Y):=rfl;have rs:∀ab,cd 71 ab [] S ((S.set j (gw ws .aD)).set m (.M (aV C 14 o.aq) [] O)++[.M (aF 2) [] O])=J (.bP [],(S.set j (gw ws .aD)).set m (.M (aV C 14 o.aq) [] O)):=λab=>by simp[cd,aJ,bY,aC]
 have k:bk (S.set j (gw ws .aD)++[.M (aF 2) [] O]) .C (.P S.length 3)=J (.B O):=by have:=bV (S:=S.set j (gw ws .aD)++[.M (aF 2) [] O]) (i:=S.length) (cs:=aF 2) (ab:=[]) (l:=O) (by rw[pG (by simp)];simp) .C 3;rw[this];rfl
 try simp at p
 try simp at n
 rw[Py ah7];generalize(S.set j (gw ws .aD)).set m (.M (aV C 14 o.aq) [] O)=S3,S.set j (gw ws .aD)=S2,aF 2=U at*;simp-implicitDefEqProofs [R,A,y,n,p,X,w,P,k,E,I,L,M,dd,cz,z,tq,bJ,st,x,B,rs,v.agg]
end
def xm:List Bool->Nat
 |[]=>0
 |b::r=>(if b=Y then 1 else 0)+xm r
def RR:∀l,xm l<=l.length
 |[]=>eI _
 |b::r=>by have:=RR r;simp only[xm,jI];split<;>omega
def Mi(b:List Bool)(r:b.length=5)(nb:Nat)(S:G):∀(n i a:Nat),i+n=5->a<=i+2->
 DC F W (.L tY) ⟨[(3,.I V (a:Int)),(16,.A (b.map .B)),(17,.I V (i:Int))],[],nb⟩ S=J (.E 0,⟨[(3,.I V ((a+xm (b.drop i):Nat):Int))],[],nb⟩,S):=by
 intro n;induction n with
 |zero=>
  intro i a p o;have e:i=5:=by omega
  subst e;rw[iy (by omega)];rw[av,bf gj];simp[xm]
 |succ n k=>
  intro i a p o;have g:i<b.length:=by omega
  have d:ud 5 1 .C (.A (b.map .B)) (.I V (i:Int))=J (.B b[i]):=by simp only[ud];rw[if_neg (by omega),if_pos (by omega)];simp[g]
  have m:b.drop i=b[i]::b.drop (i+1):=List.drop_eq_getElem_cons g;have l:(i:Int)<5:=by omega
  have j:gh V ((i:Int)+1)=((i+1:Nat):Int):=bj (by omega);have f:gh V ((a:Int)+1)=((a+1:Nat):Int):=bj (by omega);have q:=RR (b.drop (i+1));rw[m];cases h:b[i]with
  |false=>
   rw[h]at d;have c:=k (i+1) a (by omega) (by omega);rw[show xm (O::List.drop (i+1) b)=0+xm (List.drop (i+1) b)from rfl,wL];generalize AV.A (b.map .B)=B at*;rw[av,bf gj];simp-implicitDefEqProofs [-aE, -ud,dR,l,d,ku];rw[ak gj];try simp at c
   simp-implicitDefEqProofs [-aE,j,c]
  |true=>
   rw[h]at d;have c:=k (i+1) (a+1) (by omega) (by omega);rw[show xm (Y::List.drop (i+1) b)=1+xm (List.drop (i+1) b)from rfl,<-yq];generalize AV.A (b.map .B)=B at*;rw[av,bf gj];simp-implicitDefEqProofs [-aE, -ud,dR,l,d,ku];rw[ak gj];try simp at c
   simp-implicitDefEqProofs [-aE,j,f,c]
def j_(k:Int)(S:G):DF F W 68 [.A (aF k)] S=J (.I V ((2+xm [cZ k,c7 k,aN (k=1),aN (k=2),aN (k=8)]:Nat):Int),S):=by
 have L:=Mi [cZ k,c7 k,aN (k=1),aN (k=2),aN (k=8)] rfl S.length (S++[.M (aF k) [] O]) 5 0 2 rfl (by omega);rw[qf]at L;have g:(aF k)[1]? =J (.B (cZ k)):=rfl;have h:(aF k)[2]? =J (.B (c7 k)):=rfl;have i:(aF k)[3]? =J (.B (aN (k=1))):=rfl;have j:(aF k)[4]? =J (.B (aN (k=2))):=rfl;have l:(aF k)[5]? =J (.B (aN (k=8))):=rfl;have f:(aF k).length=6:=rfl;have d:=fo k;have b:(AV.A (aF k)).cells=aF k:=rfl;have e:bE Az [(0,1,.B (cZ k)),(1,1,.B (c7 k)),(2,1,.B (aN (k=1))),(3,1,.B (aN (k=2))),(4,1,.B (aN (k=8)))]=J ([cZ k,c7 k,aN (k=1),aN (k=2),aN (k=8)].map .B):=rfl;generalize([cZ k,c7 k,aN (k=1),aN (k=2),aN (k=8)].map AV.B)=s,xm [cZ k,c7 k,aN (k=1),aN (k=2),aN (k=8)]=c at*;rw[fI amo];generalize cZ k=t,c7 k=u,aN (k=1)=v,aN (k=2)=w,aN (k=8)=x,aF k=U,Az=a at*;have m:∀p:1<U.length,U[1]'p=_:=λp=>ff ((cx p).symm.trans g);have n:∀p:2<U.length,U[2]'p=_:=λp=>ff ((cx p).symm.trans h);have o:∀p:3<U.length,U[3]'p=_:=λp=>ff ((cx p).symm.trans i);have q:∀p:4<U.length,U[4]'p=_:=λp=>ff ((cx p).symm.trans j);have r:∀p:5<U.length,U[5]'p=_:=λp=>ff ((cx p).symm.trans l);simp-implicitDefEqProofs [-aE,f,d,b,m,n,o,q,r,e];rw[ak gj];try simp at L
 simp-implicitDefEqProofs [-aE,L]
def nP(k:Int)(a:1<=k)(b:k<=9):ud 10 6 (.A 6) (.A aM) (.I V k)=J (.A (aF k)):=by have h:=nO k.toNat (by omega);rw[show((k.toNat:Nat):Int)=k by omega]at h;simp only[ud];rw[if_neg (by omega),if_pos (by omega)];exact h
def Zn(a:aB)(S:G)(h:¬(1<=a.ae/\a.ae<=9)):DF F W 12 [.A a.aq] S=J (a.eG,S):=by
 have e:a.eG=.bP [.S [],.dA 59 (.I V 5)]:=by unfold aB.eG aB.code;rw[if_pos h];rfl
 rw[e,fI Ch];have i:∀a b,aE .gtr (.I V a) (.I V b)=J (.B (aN (a>b))):=λ_ _=>rfl;have g:∀d c,cd 12 d [.S [],.dA 59 (.I V 5)] S (S++c)=J (.bP [.S [],.dA 59 (.I V 5)],S):=λd c=>by simp[dr,bI,bD,aP,aC,aO]
 by_cases f:a.ae<1;·simp-implicitDefEqProofs [-aE,dR,f,g]
 ·have j:a.ae>9:=by omega
  simp-implicitDefEqProofs [-aE,dR,i,f,j,g]
def WZ(a:aB)(v:a.Wf)(S:G)(m:1<=a.ae)(n:a.ae<=9)(w:¬(a.cR=Y/\a.raw.length<=4096)):DF F W 12 [.A a.aq] S=J (a.eG,S):=by
 have e:a.eG=.bP [.S [],.dA 59 (.I V 1)]:=by
  have c:a.code=1:=by unfold aB.code;rw[if_neg (λh=>h ⟨m,n⟩),if_pos w]
  unfold aB.eG;rw[c];rfl
 have u:∀a b,aE .gtr (.I V a) (.I V b)=J (.B (aN (a>b))):=λ_ _=>rfl;have C:∀i d,cd 12 i [.S [],.dA 59 (.I V 1)] S (S++d)=J (.bP [.S [],.dA 59 (.I V 1)],S):=λi d=>by simp[dr,bI,bD,aP,aC,aO]
 have y:=dX;have x:=nP a.ae m n;have r:=λT=>kj a m n T;have k:=λT=>ki a a.bare v.cO (aB.sF v) T;rw[aB.gR]at k;have q:(aF a.ae).length=6:=rfl;have l:=fo a.ae;have B:=cG q l;have s:(AV.A (aF a.ae)).cells=aF a.ae:=rfl;have t:=fq;have z:¬a.ae<1:=by omega
 have A:¬a.ae>9:=by omega
 have I:=cl a.raw;rw[e];clear e;have E:([AV.S [],.B O,.B O,.B O,.B O,.B O]:bN)=aU:=rfl;have j:aU.length=6:=rfl;generalize aF a.ae=U,aM=f at*;rw[fI Ch];try simp only[E]
 generalize aU=g at*;cases o:a.cR with
 |false=>
  rw[o]at k;simp-implicitDefEqProofs [-aE, -ud,dR,u,z,A,y,t.agg,x,q,l,j,aY,B,s,r,k,bw,C]
 |true=>
  rw[o]at k;have L:4096<a.raw.length:=by have:¬a.raw.length<=4096:=λh=>w ⟨o,h⟩;omega
  have p:(a.raw.length:Int)>4096:=by omega
  simp-implicitDefEqProofs [-aE, -ud,dR,u,z,A,y,t.agg,x,q,l,j,aY,B,s,r,k,bw,I,p,C]
structure aB.v7(a:aB):Prop where
 f0: -9223372036854775808<=a.fst
 f1:a.fst<=9223372036854775807
 s0: -9223372036854775808<=a.snd
 s1:a.snd<=9223372036854775807
 v0: -9223372036854775808<=a.b_
 v1:a.b_<=9223372036854775807
def adl(a:aB)(ha:a.Wf)(i:a.v7)(S:G)(h:a.ae=1)(X:a.cR=Y)(hl:a.raw.length<=4096):DF F W 12 [.A a.aq] S=J (a.eG,S):=by
 have B:1<=a.ae:=by omega
 have C:a.ae<=9:=by omega
 have gI:∀a b,aE .gtr (.I V a) (.I V b)=J (.B (aN (a>b))):=λ_ _=>rfl;have t:∀g d x e,(e=.aD\/∃n,e=.dA 59 (.I V n))->cd 12 g [.S x,e] S (S++d)=J (.bP [.S x,e],S):=λg d x e he=>by rcases he with rfl|⟨n,rfl⟩<;>simp[dr,bI,bD,aP,aC,aO]
 have kd:=dX;have ig:=nP a.ae B C;have br:=λT=>kj a B C T;have sm:=λT=>ki a a.bare ha.cO (aB.sF ha) T;rw[aB.gR,X]at sm;have hu:(aF a.ae).length=6:=rfl;have R:=fo a.ae;have pu:=cG hu R;have cu:(AV.A (aF a.ae)).cells=aF a.ae:=rfl;have u0:(aF a.ae)[0]? =J (.S [119,114,105,116,101]):=by rw[h];rfl
 have u1:(aF a.ae)[1]? =J (.B O):=by rw[h];rfl
 have u2:(aF a.ae)[2]? =J (.B Y):=by rw[h];rfl
 have u3:(aF a.ae)[3]? =J (.B Y):=by rw[h];rfl
 have u4:(aF a.ae)[4]? =J (.B O):=by rw[h];rfl
 have u5:(aF a.ae)[5]? =J (.B O):=by rw[h];rfl
 have dk:=fq;have n1:¬a.ae<1:=by omega
 have n9:¬a.ae>9:=by omega
 have ln:=cl a.raw;have m:¬(a.raw.length:Int)>4096:=by omega
 have hz:([AV.S [],.B O,.B O,.B O,.B O,.B O]:bN)=aU:=rfl;have o:aU.length=6:=rfl;have it:=λT=>b5 a.fst i.f0 i.f1 T;have r:=λT=>b5 a.snd i.s0 i.s1 T;have s:=λT=>b5 a.b_ i.v0 i.v1 T;have l0:=bZ a.fst i.f0 i.f1;have l1:=bZ a.snd i.s0 i.s1;have l2:=bZ a.b_ i.v0 i.v1;have b0:b6 .neq (.dA cC) Y .aD .aD=J (.B O):=rfl;have l:∀x y,dq 1 [[AV.S []],[AV.S []]] [(0,.S x),(1,.S y)]=J (strs [x,y]):=λ_ _=>rfl;have k:∀x,dq 1 [[AV.S []]] [(0,.S x)]=J (strs [x]):=λ_=>rfl;have z:=λT=>Ow a.op ha.op T;have j:=Re (De a.op) (jW a.op) (Me a.op);have u:∀n,b6 .neq (.dA cC) Y (.dA 59 (.I V n)) .aD=J (.B Y):=λ_=>rfl;rcases(show(De a.op)=O\/(De a.op)=Y by cases(De a.op)<;>simp)with ho|ho
 ·rw[ho,if_neg (by simp)]at j
  rw[ho]at z;have e:a.eG=.bP [.S [],.dA 59 (.I V 1)]:=by
   have c:a.code=1:=by unfold aB.code;rw[if_neg (λq:¬_=>q ⟨B,C⟩),if_neg (λq:¬_=>q ⟨X,hl⟩),if_pos h,if_neg (by rw[ho];simp)]
   unfold aB.eG;rw[c];rfl
  rw[e];rw[show r6 1=.dA 59 (.I V 1)from rfl]at j;have t:=λg d x=>t g d x _ (.inr ⟨1,rfl⟩);have u:=u 1;rw[fI Ch];try simp only[hz]
  generalize aF a.ae=U,aM=v,aU=f at*;have I:∀p:0<U.length,U[0]'p=_:=λp=>ff ((cx p).symm.trans u0);have L:∀p:1<U.length,U[1]'p=_:=λp=>ff ((cx p).symm.trans u1);have M:∀p:2<U.length,U[2]'p=_:=λp=>ff ((cx p).symm.trans u2);have N:∀p:3<U.length,U[3]'p=_:=λp=>ff ((cx p).symm.trans u3);have P:∀p:4<U.length,U[4]'p=_:=λp=>ff ((cx p).symm.trans u4);have Q:∀p:5<U.length,U[5]'p=_:=λp=>ff ((cx p).symm.trans u5);simp-implicitDefEqProofs [-aE, -ud,dR,gI,n1,n9,kd,dk.agg,ig,hu,R,o,aY,pu,cu,br,sm,bw,ln,m,I,L,M,N,P,Q,it,r,s,l,k,b0,t,z,j,bJ,u]
 ·rw[ho,if_pos rfl]at j
  rw[ho]at z;by_cases hx:4096<(jW a.op).length
  ·rw[if_pos hx,show r6 3=.dA 59 (.I V 3)from rfl]at j
   have t:=λg d x=>t g d x _ (.inr ⟨3,rfl⟩);have u:=u 3;have e:a.eG=.bP [.S [],.dA 59 (.I V 3)]:=by
    have c:a.code=3:=by unfold aB.code;rw[if_neg (λq:¬_=>q ⟨B,C⟩),if_neg (λq:¬_=>q ⟨X,hl⟩),if_pos h,if_pos ho,if_pos hx]
    unfold aB.eG;rw[c];rfl
   rw[e];rw[fI Ch];try simp only[hz]
   generalize aF a.ae=U,aM=v,aU=f at*;have I:∀p:0<U.length,U[0]'p=_:=λp=>ff ((cx p).symm.trans u0);have L:∀p:1<U.length,U[1]'p=_:=λp=>ff ((cx p).symm.trans u1);have M:∀p:2<U.length,U[2]'p=_:=λp=>ff ((cx p).symm.trans u2);have N:∀p:3<U.length,U[3]'p=_:=λp=>ff ((cx p).symm.trans u3);have P:∀p:4<U.length,U[4]'p=_:=λp=>ff ((cx p).symm.trans u4);have Q:∀p:5<U.length,U[5]'p=_:=λp=>ff ((cx p).symm.trans u5);simp-implicitDefEqProofs [-aE, -ud,dR,gI,n1,n9,kd,dk.agg,ig,hu,R,o,aY,pu,cu,br,sm,bw,ln,m,I,L,M,N,P,Q,it,r,s,l,k,b0,t,z,j,bJ,u]
  ·rw[if_neg hx]at j
   have e:a.eG=.bP [.S a.line,.aD]:=by
    have c:a.code=0:=by unfold aB.code;rw[if_neg (λq:¬_=>q ⟨B,C⟩),if_neg (λq:¬_=>q ⟨X,hl⟩),if_pos h,if_pos ho,if_neg hx]
    unfold aB.eG;rw[c];rfl
   rw[e];have hxx:=λT=>yi (jW a.op) (by omega) T;have lx:=kA (jW a.op);have gf:∀T,b7 T (.sl (.fr 0) 1 (fA (jW a.op)))=J (.sl .N 1 (fA (jW a.op))):=λ_=>rfl;have lf:∀T,ca T (.sl (.fr 0) 1 (fA (jW a.op)))=T:=λ_=>rfl;have uf:∀T T',bC T T' (.sl (.fr 0) 1 (fA (jW a.op)))=T':=λ_ _=>rfl;have nf':cJ (.sl .N 1 (fA (jW a.op)))=cq (jW a.op):=j9 _;have h0:cY 1 (.sl .X 1 (strs [[119,114,105,116,101],a7 a.fst])) [J (jW a.op).length] (strs [[119,114,105,116,101],a7 a.fst]):=.inr (.inl rfl);have⟨o0,t0,a0,g0⟩:=cY.app h0 (xs:=strs [a7 a.b_]) (by simp[strs]) (by simp[strs]) .X (S++[.M a.aq [] O,.M (aF a.ae) [] O]);rw[q9,show[[119,114,105,116,101],a7 a.fst]++[a7 a.b_]=[[119,114,105,116,101],a7 a.fst,a7 a.b_]from rfl]at g0;have⟨o1,t1,a1,A⟩:=cY.app g0 (xs:=strs [dI (jW a.op)]) (by simp[strs]) (by simp[strs]) .X (S++[.M a.aq [] O,.M (aF a.ae) [] O]);rw[q9,show[[119,114,105,116,101],a7 a.fst,a7 a.b_]++[dI (jW a.op)]=[[119,114,105,116,101],a7 a.fst,a7 a.b_,dI (jW a.op)]from rfl]at A;have wd:a.ax=[[119,114,105,116,101],a7 a.fst,a7 a.b_,dI (jW a.op)]:=by simp[aB.ax,cm,cZ,c7,h]
   have E:=λT=>iY [[119,114,105,116,101],a7 a.fst,a7 a.b_,dI (jW a.op)] (by simp) (by simp[fE];omega) T;have y1:=cY.z6 A;have y2:cJ (aH o1)=.sl .N 1 (a.ax.map λw=>[.S w]):=by rw[wd];exact(cY.cJ A).trans (xQ _)
   have y3:=cY.lock A;have y4:=cY.oM A;rw[<-wd]at E;rw[show fE [32] a.ax=a.line from rfl]at E;have E:=λT=>ph y2 (E T);rw[fI Ch];try simp only[hz]
   generalize aF a.ae=U,aM=v,aU=f at*;have I:∀p:0<U.length,U[0]'p=_:=λp=>ff ((cx p).symm.trans u0);have L:∀p:1<U.length,U[1]'p=_:=λp=>ff ((cx p).symm.trans u1);have M:∀p:2<U.length,U[2]'p=_:=λp=>ff ((cx p).symm.trans u2);have N:∀p:3<U.length,U[3]'p=_:=λp=>ff ((cx p).symm.trans u3);have P:∀p:4<U.length,U[4]'p=_:=λp=>ff ((cx p).symm.trans u4);have Q:∀p:5<U.length,U[5]'p=_:=λp=>ff ((cx p).symm.trans u5);try simp at a0
   try simp at a1
   simp-implicitDefEqProofs [-aE, -ud,dR,gI,n1,n9,kd,dk.agg,ig,hu,R,o,aY,pu,cu,br,sm,bw,ln,m,I,L,M,N,P,Q,it,r,s,l,k,b0,t,z,j,bJ,hxx,gf,lf,uf,nf',a0,a1,y1,y2,y3,y4,dd,cz,E]
def adm(a:aB)(ha:a.Wf)(i:a.v7)(S:G)(h:a.ae=2)(X:a.cR=Y)(hl:a.raw.length<=4096):DF F W 12 [.A a.aq] S=J (a.eG,S):=by
 have B:1<=a.ae:=by omega
 have C:a.ae<=9:=by omega
 have gI:∀a b,aE .gtr (.I V a) (.I V b)=J (.B (aN (a>b))):=λ_ _=>rfl;have t:∀g d x e,(e=.aD\/∃n,e=.dA 59 (.I V n))->cd 12 g [.S x,e] S (S++d)=J (.bP [.S x,e],S):=λg d x e he=>by rcases he with rfl|⟨n,rfl⟩<;>simp[dr,bI,bD,aP,aC,aO]
 have kd:=dX;have ig:=nP a.ae B C;have br:=λT=>kj a B C T;have sm:=λT=>ki a a.bare ha.cO (aB.sF ha) T;rw[aB.gR,X]at sm;have hu:(aF a.ae).length=6:=rfl;have R:=fo a.ae;have pu:=cG hu R;have cu:(AV.A (aF a.ae)).cells=aF a.ae:=rfl;have u0:(aF a.ae)[0]? =J (.S [112,117,98,108,105,115,104]):=by rw[h];rfl
 have u1:(aF a.ae)[1]? =J (.B O):=by rw[h];rfl
 have u2:(aF a.ae)[2]? =J (.B Y):=by rw[h];rfl
 have u3:(aF a.ae)[3]? =J (.B O):=by rw[h];rfl
 have u4:(aF a.ae)[4]? =J (.B Y):=by rw[h];rfl
 have u5:(aF a.ae)[5]? =J (.B O):=by rw[h];rfl
 have dk:=fq;have n1:¬a.ae<1:=by omega
 have n9:¬a.ae>9:=by omega
 have ln:=cl a.raw;have m:¬(a.raw.length:Int)>4096:=by omega
 have hz:([AV.S [],.B O,.B O,.B O,.B O,.B O]:bN)=aU:=rfl;have o:aU.length=6:=rfl;have it:=λT=>b5 a.fst i.f0 i.f1 T;have r:=λT=>b5 a.snd i.s0 i.s1 T;have s:=λT=>b5 a.b_ i.v0 i.v1 T;have l0:=bZ a.fst i.f0 i.f1;have l1:=bZ a.snd i.s0 i.s1;have l2:=bZ a.b_ i.v0 i.v1;have b0:b6 .neq (.dA cC) Y .aD .aD=J (.B O):=rfl;have l:∀x y,dq 1 [[AV.S []],[AV.S []]] [(0,.S x),(1,.S y)]=J (strs [x,y]):=λ_ _=>rfl;have k:∀x,dq 1 [[AV.S []]] [(0,.S x)]=J (strs [x]):=λ_=>rfl;have z:=λT=>Jd a.bU ha.bU T;have j:=Re (a.bU.ba 5) (a.bU.bytes) (bF.jM a.bU);have u:∀n,b6 .neq (.dA cC) Y (.dA 59 (.I V n)) .aD=J (.B Y):=λ_=>rfl;rcases(show(a.bU.ba 5)=O\/(a.bU.ba 5)=Y by cases(a.bU.ba 5)<;>simp)with ho|ho
 ·rw[ho,if_neg (by simp)]at j
  rw[ho]at z;have e:a.eG=.bP [.S [],.dA 59 (.I V 1)]:=by
   have c:a.code=1:=by unfold aB.code;rw[if_neg (λq:¬_=>q ⟨B,C⟩),if_neg (λq:¬_=>q ⟨X,hl⟩),if_neg (by omega),if_pos h,if_neg (by rw[ho];simp)]
   unfold aB.eG;rw[c];rfl
  rw[e];rw[show r6 1=.dA 59 (.I V 1)from rfl]at j;have t:=λg d x=>t g d x _ (.inr ⟨1,rfl⟩);have u:=u 1;rw[fI Ch];try simp only[hz]
  generalize aF a.ae=U,aM=v,aU=f at*;have I:∀p:0<U.length,U[0]'p=_:=λp=>ff ((cx p).symm.trans u0);have L:∀p:1<U.length,U[1]'p=_:=λp=>ff ((cx p).symm.trans u1);have M:∀p:2<U.length,U[2]'p=_:=λp=>ff ((cx p).symm.trans u2);have N:∀p:3<U.length,U[3]'p=_:=λp=>ff ((cx p).symm.trans u3);have P:∀p:4<U.length,U[4]'p=_:=λp=>ff ((cx p).symm.trans u4);have Q:∀p:5<U.length,U[5]'p=_:=λp=>ff ((cx p).symm.trans u5);simp-implicitDefEqProofs [-aE, -ud,dR,gI,n1,n9,kd,dk.agg,ig,hu,R,o,aY,pu,cu,br,sm,bw,ln,m,I,L,M,N,P,Q,it,r,s,l,k,b0,t,z,j,bJ,u]
 ·rw[ho,if_pos rfl]at j
  rw[ho]at z;by_cases hx:4096<(a.bU.bytes).length
  ·rw[if_pos hx,show r6 3=.dA 59 (.I V 3)from rfl]at j
   have t:=λg d x=>t g d x _ (.inr ⟨3,rfl⟩);have u:=u 3;have e:a.eG=.bP [.S [],.dA 59 (.I V 3)]:=by
    have c:a.code=3:=by unfold aB.code;rw[if_neg (λq:¬_=>q ⟨B,C⟩),if_neg (λq:¬_=>q ⟨X,hl⟩),if_neg (by omega),if_pos h,if_pos ho,if_pos hx]
    unfold aB.eG;rw[c];rfl
   rw[e];rw[fI Ch];try simp only[hz]
   generalize aF a.ae=U,aM=v,aU=f at*;have I:∀p:0<U.length,U[0]'p=_:=λp=>ff ((cx p).symm.trans u0);have L:∀p:1<U.length,U[1]'p=_:=λp=>ff ((cx p).symm.trans u1);have M:∀p:2<U.length,U[2]'p=_:=λp=>ff ((cx p).symm.trans u2);have N:∀p:3<U.length,U[3]'p=_:=λp=>ff ((cx p).symm.trans u3);have P:∀p:4<U.length,U[4]'p=_:=λp=>ff ((cx p).symm.trans u4);have Q:∀p:5<U.length,U[5]'p=_:=λp=>ff ((cx p).symm.trans u5);simp-implicitDefEqProofs [-aE, -ud,dR,gI,n1,n9,kd,dk.agg,ig,hu,R,o,aY,pu,cu,br,sm,bw,ln,m,I,L,M,N,P,Q,it,r,s,l,k,b0,t,z,j,bJ,u]
  ·rw[if_neg hx]at j
   have e:a.eG=.bP [.S a.line,.aD]:=by
    have c:a.code=0:=by unfold aB.code;rw[if_neg (λq:¬_=>q ⟨B,C⟩),if_neg (λq:¬_=>q ⟨X,hl⟩),if_neg (by omega),if_pos h,if_pos ho,if_neg hx]
    unfold aB.eG;rw[c];rfl
   rw[e];have hxx:=λT=>yi (a.bU.bytes) (by omega) T;have lx:=kA (a.bU.bytes);have gf:∀T,b7 T (.sl (.fr 0) 1 (fA (a.bU.bytes)))=J (.sl .N 1 (fA (a.bU.bytes))):=λ_=>rfl;have lf:∀T,ca T (.sl (.fr 0) 1 (fA (a.bU.bytes)))=T:=λ_=>rfl;have uf:∀T T',bC T T' (.sl (.fr 0) 1 (fA (a.bU.bytes)))=T':=λ_ _=>rfl;have nf':cJ (.sl .N 1 (fA (a.bU.bytes)))=cq (a.bU.bytes):=j9 _;have h0:cY 1 (.sl .X 1 (strs [[112,117,98,108,105,115,104],a7 a.fst])) [J (a.bU.bytes).length] (strs [[112,117,98,108,105,115,104],a7 a.fst]):=.inr (.inl rfl);have⟨o0,t0,a0,g0⟩:=cY.app h0 (xs:=strs [a7 a.b_]) (by simp[strs]) (by simp[strs]) .X (S++[.M a.aq [] O,.M (aF a.ae) [] O]);rw[q9,show[[112,117,98,108,105,115,104],a7 a.fst]++[a7 a.b_]=[[112,117,98,108,105,115,104],a7 a.fst,a7 a.b_]from rfl]at g0;have⟨o1,t1,a1,A⟩:=cY.app g0 (xs:=strs [dI a.bU.bytes]) (by simp[strs]) (by simp[strs]) .X (S++[.M a.aq [] O,.M (aF a.ae) [] O]);rw[q9,show[[112,117,98,108,105,115,104],a7 a.fst,a7 a.b_]++[dI a.bU.bytes]=[[112,117,98,108,105,115,104],a7 a.fst,a7 a.b_,dI a.bU.bytes]from rfl]at A;have wd:a.ax=[[112,117,98,108,105,115,104],a7 a.fst,a7 a.b_,dI a.bU.bytes]:=by simp[aB.ax,cm,cZ,c7,h]
   have E:=λT=>iY [[112,117,98,108,105,115,104],a7 a.fst,a7 a.b_,dI a.bU.bytes] (by simp) (by simp[fE];omega) T;have y1:=cY.z6 A;have y2:cJ (aH o1)=.sl .N 1 (a.ax.map λw=>[.S w]):=by rw[wd];exact(cY.cJ A).trans (xQ _)
   have y3:=cY.lock A;have y4:=cY.oM A;rw[<-wd]at E;rw[show fE [32] a.ax=a.line from rfl]at E;have E:=λT=>ph y2 (E T);rw[fI Ch];try simp only[hz]
   generalize aF a.ae=U,aM=v,aU=f at*;have I:∀p:0<U.length,U[0]'p=_:=λp=>ff ((cx p).symm.trans u0);have L:∀p:1<U.length,U[1]'p=_:=λp=>ff ((cx p).symm.trans u1);have M:∀p:2<U.length,U[2]'p=_:=λp=>ff ((cx p).symm.trans u2);have N:∀p:3<U.length,U[3]'p=_:=λp=>ff ((cx p).symm.trans u3);have P:∀p:4<U.length,U[4]'p=_:=λp=>ff ((cx p).symm.trans u4);have Q:∀p:5<U.length,U[5]'p=_:=λp=>ff ((cx p).symm.trans u5);try simp at a0
   try simp at a1
   simp-implicitDefEqProofs [-aE, -ud,dR,gI,n1,n9,kd,dk.agg,ig,hu,R,o,aY,pu,cu,br,sm,bw,ln,m,I,L,M,N,P,Q,it,r,s,l,k,b0,t,z,j,bJ,hxx,gf,lf,uf,nf',a0,a1,y1,y2,y3,y4,dd,cz,E]
def adn(a:aB)(C:a.Wf)(g:a.v7)(S:G)(h:a.ae=3)(B:a.cR=Y)(hl:a.raw.length<=4096):DF F W 12 [.A a.aq] S=J (a.eG,S):=by
 have o:1<=a.ae:=by omega
 have r:a.ae<=9:=by omega
 have gI:∀a b,aE .gtr (.I V a) (.I V b)=J (.B (aN (a>b))):=λ_ _=>rfl;have rs:∀i d x e,(e=.aD\/∃n,e=.dA 59 (.I V n))->cd 12 i [.S x,e] S (S++d)=J (.bP [.S x,e],S):=λi d x e he=>by rcases he with rfl|⟨n,rfl⟩<;>simp[dr,bI,bD,aP,aC,aO]
 have kd:=dX;have ig:=nP a.ae o r;have Q:=λT=>kj a o r T;have I:=λT=>ki a a.bare C.cO (aB.sF C) T;rw[aB.gR,B]at I;have E:(aF a.ae).length=6:=rfl;have A:=fo a.ae;have pu:=cG E A;have R:(AV.A (aF a.ae)).cells=aF a.ae:=rfl;have u0:(aF a.ae)[0]? =J (.S [115,121,110,99]):=by rw[h];rfl
 have u1:(aF a.ae)[1]? =J (.B Y):=by rw[h];rfl
 have u2:(aF a.ae)[2]? =J (.B O):=by rw[h];rfl
 have u3:(aF a.ae)[3]? =J (.B O):=by rw[h];rfl
 have u4:(aF a.ae)[4]? =J (.B O):=by rw[h];rfl
 have u5:(aF a.ae)[5]? =J (.B O):=by rw[h];rfl
 have X:=fq;have n1:¬a.ae<1:=by omega
 have n9:¬a.ae>9:=by omega
 have ln:=cl a.raw;have s:¬(a.raw.length:Int)>4096:=by omega
 have hz:([AV.S [],.B O,.B O,.B O,.B O,.B O]:bN)=aU:=rfl;have t:aU.length=6:=rfl;have it:=λT=>b5 a.fst g.f0 g.f1 T;have u:=λT=>b5 a.snd g.s0 g.s1 T;have v:=λT=>b5 a.b_ g.v0 g.v1 T;have l0:=bZ a.fst g.f0 g.f1;have l1:=bZ a.snd g.s0 g.s1;have l2:=bZ a.b_ g.v0 g.v1;have P:b6 .neq (.dA cC) Y .aD .aD=J (.B O):=rfl;have m:∀x y,dq 1 [[AV.S []],[AV.S []]] [(0,.S x),(1,.S y)]=J (strs [x,y]):=λ_ _=>rfl;have l:∀x,dq 1 [[AV.S []]] [(0,.S x)]=J (strs [x]):=λ_=>rfl;have e:a.eG=.bP [.S a.line,.aD]:=by
  have c:a.code=0:=by unfold aB.code;rw[if_neg (λq:¬_=>q ⟨o,r⟩),if_neg (λq:¬_=>q ⟨B,hl⟩),if_neg (by omega),if_neg (by omega)]
  unfold aB.eG;rw[c];rfl
 rw[e];have h0:cY 1 (.sl .X 1 (strs [[115,121,110,99],a7 a.fst])) [] (strs [[115,121,110,99],a7 a.fst]):=.inr (.inl rfl);have⟨o0,t0,z,j⟩:=cY.app h0 (xs:=strs [a7 a.snd]) (by simp[strs]) (by simp[strs]) .X (S++[.M a.aq [] O,.M (aF a.ae) [] O]);rw[q9,show[[115,121,110,99],a7 a.fst]++[a7 a.snd]=[[115,121,110,99],a7 a.fst,a7 a.snd]from rfl]at j;have L:a.ax=[[115,121,110,99],a7 a.fst,a7 a.snd]:=by simp[aB.ax,cm,cZ,c7,h]
 have k:=λT=>iY [[115,121,110,99],a7 a.fst,a7 a.snd] (by simp) (by simp[fE];omega) T;have y1:=cY.z6 j;have M:cJ (aH o0)=.sl .N 1 (a.ax.map λw=>[.S w]):=by rw[L];exact(cY.cJ j).trans (xQ _)
 have y3:=cY.lock j;have y4:=cY.oM j;rw[<-L]at k;rw[show fE [32] a.ax=a.line from rfl]at k;have k:=λT=>ph M (k T);rw[fI Ch];try simp only[hz]
 generalize aF a.ae=U,aM=N,aU=f at*;have v0:∀p:0<U.length,U[0]'p=_:=λp=>ff ((cx p).symm.trans u0);have v1:∀p:1<U.length,U[1]'p=_:=λp=>ff ((cx p).symm.trans u1);have v2:∀p:2<U.length,U[2]'p=_:=λp=>ff ((cx p).symm.trans u2);have v3:∀p:3<U.length,U[3]'p=_:=λp=>ff ((cx p).symm.trans u3);have v4:∀p:4<U.length,U[4]'p=_:=λp=>ff ((cx p).symm.trans u4);have v5:∀p:5<U.length,U[5]'p=_:=λp=>ff ((cx p).symm.trans u5);try simp at z
 simp-implicitDefEqProofs [-aE, -ud,dR,gI,n1,n9,kd,X.agg,ig,E,A,t,aY,pu,R,Q,I,bw,ln,s,v0,v1,v2,v3,v4,v5,it,u,v,m,l,P,rs,z,y1,M,y3,y4,dd,cz,k]
def ado(a:aB)(B:a.Wf)(g:a.v7)(S:G)(h:a.ae=4)(A:a.cR=Y)(hl:a.raw.length<=4096):DF F W 12 [.A a.aq] S=J (a.eG,S):=by
 have o:1<=a.ae:=by omega
 have r:a.ae<=9:=by omega
 have X:∀a b,aE .gtr (.I V a) (.I V b)=J (.B (aN (a>b))):=λ_ _=>rfl;have rs:∀i d x e,(e=.aD\/∃n,e=.dA 59 (.I V n))->cd 12 i [.S x,e] S (S++d)=J (.bP [.S x,e],S):=λi d x e he=>by rcases he with rfl|⟨n,rfl⟩<;>simp[dr,bI,bD,aP,aC,aO]
 have kd:=dX;have ig:=nP a.ae o r;have P:=λT=>kj a o r T;have E:=λT=>ki a a.bare B.cO (aB.sF B) T;rw[aB.gR,A]at E;have C:(aF a.ae).length=6:=rfl;have z:=fo a.ae;have pu:=cG C z;have Q:(AV.A (aF a.ae)).cells=aF a.ae:=rfl;have u0:(aF a.ae)[0]? =J (.S [100,101,108,105,118,101,114]):=by rw[h];rfl
 have u1:(aF a.ae)[1]? =J (.B O):=by rw[h];rfl
 have u2:(aF a.ae)[2]? =J (.B O):=by rw[h];rfl
 have u3:(aF a.ae)[3]? =J (.B O):=by rw[h];rfl
 have u4:(aF a.ae)[4]? =J (.B O):=by rw[h];rfl
 have u5:(aF a.ae)[5]? =J (.B O):=by rw[h];rfl
 have R:=fq;have n1:¬a.ae<1:=by omega
 have n9:¬a.ae>9:=by omega
 have ln:=cl a.raw;have s:¬(a.raw.length:Int)>4096:=by omega
 have hz:([AV.S [],.B O,.B O,.B O,.B O,.B O]:bN)=aU:=rfl;have t:aU.length=6:=rfl;have it:=λT=>b5 a.fst g.f0 g.f1 T;have u:=λT=>b5 a.snd g.s0 g.s1 T;have v:=λT=>b5 a.b_ g.v0 g.v1 T;have l0:=bZ a.fst g.f0 g.f1;have l1:=bZ a.snd g.s0 g.s1;have l2:=bZ a.b_ g.v0 g.v1;have N:b6 .neq (.dA cC) Y .aD .aD=J (.B O):=rfl;have m:∀x y,dq 1 [[AV.S []],[AV.S []]] [(0,.S x),(1,.S y)]=J (strs [x,y]):=λ_ _=>rfl;have l:∀x,dq 1 [[AV.S []]] [(0,.S x)]=J (strs [x]):=λ_=>rfl;have e:a.eG=.bP [.S a.line,.aD]:=by
  have c:a.code=0:=by unfold aB.code;rw[if_neg (λq:¬_=>q ⟨o,r⟩),if_neg (λq:¬_=>q ⟨A,hl⟩),if_neg (by omega),if_neg (by omega)]
  unfold aB.eG;rw[c];rfl
 rw[e];have k:cY 1 (.sl .X 1 (strs [[100,101,108,105,118,101,114],a7 a.fst])) [] (strs [[100,101,108,105,118,101,114],a7 a.fst]):=.inr (.inl rfl);have I:a.ax=[[100,101,108,105,118,101,114],a7 a.fst]:=by simp[aB.ax,cm,cZ,c7,h]
 have j:=λT=>iY [[100,101,108,105,118,101,114],a7 a.fst] (by simp) (by simp[fE];omega) T;have y1:=cY.z6 k;have L:cJ (aH (.sl .X 1 (strs [[100,101,108,105,118,101,114],a7 a.fst])))=.sl .N 1 (a.ax.map λw=>[.S w]):=by rw[I];exact(cY.cJ k).trans (xQ _)
 have y3:=cY.lock k;have y4:=cY.oM k;rw[<-I]at j;rw[show fE [32] a.ax=a.line from rfl]at j;have j:=λT=>ph L (j T);rw[fI Ch];try simp only[hz]
 generalize aF a.ae=U,aM=M,aU=f at*;have v0:∀p:0<U.length,U[0]'p=_:=λp=>ff ((cx p).symm.trans u0);have v1:∀p:1<U.length,U[1]'p=_:=λp=>ff ((cx p).symm.trans u1);have v2:∀p:2<U.length,U[2]'p=_:=λp=>ff ((cx p).symm.trans u2);have v3:∀p:3<U.length,U[3]'p=_:=λp=>ff ((cx p).symm.trans u3);have v4:∀p:4<U.length,U[4]'p=_:=λp=>ff ((cx p).symm.trans u4);have v5:∀p:5<U.length,U[5]'p=_:=λp=>ff ((cx p).symm.trans u5);simp-implicitDefEqProofs [-aE, -ud,dR,X,n1,n9,kd,R.agg,ig,C,z,t,aY,pu,Q,P,E,bw,ln,s,v0,v1,v2,v3,v4,v5,it,u,v,m,l,N,rs,y1,L,y3,y4,dd,cz,j]
def adp(a:aB)(B:a.Wf)(g:a.v7)(S:G)(h:a.ae=5)(A:a.cR=Y)(hl:a.raw.length<=4096):DF F W 12 [.A a.aq] S=J (a.eG,S):=by
 have o:1<=a.ae:=by omega
 have r:a.ae<=9:=by omega
 have X:∀a b,aE .gtr (.I V a) (.I V b)=J (.B (aN (a>b))):=λ_ _=>rfl;have rs:∀i d x e,(e=.aD\/∃n,e=.dA 59 (.I V n))->cd 12 i [.S x,e] S (S++d)=J (.bP [.S x,e],S):=λi d x e he=>by rcases he with rfl|⟨n,rfl⟩<;>simp[dr,bI,bD,aP,aC,aO]
 have kd:=dX;have ig:=nP a.ae o r;have P:=λT=>kj a o r T;have E:=λT=>ki a a.bare B.cO (aB.sF B) T;rw[aB.gR,A]at E;have C:(aF a.ae).length=6:=rfl;have z:=fo a.ae;have pu:=cG C z;have Q:(AV.A (aF a.ae)).cells=aF a.ae:=rfl;have u0:(aF a.ae)[0]? =J (.S [108,111,115,101]):=by rw[h];rfl
 have u1:(aF a.ae)[1]? =J (.B O):=by rw[h];rfl
 have u2:(aF a.ae)[2]? =J (.B O):=by rw[h];rfl
 have u3:(aF a.ae)[3]? =J (.B O):=by rw[h];rfl
 have u4:(aF a.ae)[4]? =J (.B O):=by rw[h];rfl
 have u5:(aF a.ae)[5]? =J (.B O):=by rw[h];rfl
 have R:=fq;have n1:¬a.ae<1:=by omega
 have n9:¬a.ae>9:=by omega
 have ln:=cl a.raw;have s:¬(a.raw.length:Int)>4096:=by omega
 have hz:([AV.S [],.B O,.B O,.B O,.B O,.B O]:bN)=aU:=rfl;have t:aU.length=6:=rfl;have it:=λT=>b5 a.fst g.f0 g.f1 T;have u:=λT=>b5 a.snd g.s0 g.s1 T;have v:=λT=>b5 a.b_ g.v0 g.v1 T;have l0:=bZ a.fst g.f0 g.f1;have l1:=bZ a.snd g.s0 g.s1;have l2:=bZ a.b_ g.v0 g.v1;have N:b6 .neq (.dA cC) Y .aD .aD=J (.B O):=rfl;have m:∀x y,dq 1 [[AV.S []],[AV.S []]] [(0,.S x),(1,.S y)]=J (strs [x,y]):=λ_ _=>rfl;have l:∀x,dq 1 [[AV.S []]] [(0,.S x)]=J (strs [x]):=λ_=>rfl;have e:a.eG=.bP [.S a.line,.aD]:=by
  have c:a.code=0:=by unfold aB.code;rw[if_neg (λq:¬_=>q ⟨o,r⟩),if_neg (λq:¬_=>q ⟨A,hl⟩),if_neg (by omega),if_neg (by omega)]
  unfold aB.eG;rw[c];rfl
 rw[e];have k:cY 1 (.sl .X 1 (strs [[108,111,115,101],a7 a.fst])) [] (strs [[108,111,115,101],a7 a.fst]):=.inr (.inl rfl);have I:a.ax=[[108,111,115,101],a7 a.fst]:=by simp[aB.ax,cm,cZ,c7,h]
 have j:=λT=>iY [[108,111,115,101],a7 a.fst] (by simp) (by simp[fE];omega) T;have y1:=cY.z6 k;have L:cJ (aH (.sl .X 1 (strs [[108,111,115,101],a7 a.fst])))=.sl .N 1 (a.ax.map λw=>[.S w]):=by rw[I];exact(cY.cJ k).trans (xQ _)
 have y3:=cY.lock k;have y4:=cY.oM k;rw[<-I]at j;rw[show fE [32] a.ax=a.line from rfl]at j;have j:=λT=>ph L (j T);rw[fI Ch];try simp only[hz]
 generalize aF a.ae=U,aM=M,aU=f at*;have v0:∀p:0<U.length,U[0]'p=_:=λp=>ff ((cx p).symm.trans u0);have v1:∀p:1<U.length,U[1]'p=_:=λp=>ff ((cx p).symm.trans u1);have v2:∀p:2<U.length,U[2]'p=_:=λp=>ff ((cx p).symm.trans u2);have v3:∀p:3<U.length,U[3]'p=_:=λp=>ff ((cx p).symm.trans u3);have v4:∀p:4<U.length,U[4]'p=_:=λp=>ff ((cx p).symm.trans u4);have v5:∀p:5<U.length,U[5]'p=_:=λp=>ff ((cx p).symm.trans u5);simp-implicitDefEqProofs [-aE, -ud,dR,X,n1,n9,kd,R.agg,ig,C,z,t,aY,pu,Q,P,E,bw,ln,s,v0,v1,v2,v3,v4,v5,it,u,v,m,l,N,rs,y1,L,y3,y4,dd,cz,j]
def adq(a:aB)(B:a.Wf)(g:a.v7)(S:G)(h:a.ae=6)(A:a.cR=Y)(hl:a.raw.length<=4096):DF F W 12 [.A a.aq] S=J (a.eG,S):=by
 have o:1<=a.ae:=by omega
 have r:a.ae<=9:=by omega
 have X:∀a b,aE .gtr (.I V a) (.I V b)=J (.B (aN (a>b))):=λ_ _=>rfl;have rs:∀i d x e,(e=.aD\/∃n,e=.dA 59 (.I V n))->cd 12 i [.S x,e] S (S++d)=J (.bP [.S x,e],S):=λi d x e he=>by rcases he with rfl|⟨n,rfl⟩<;>simp[dr,bI,bD,aP,aC,aO]
 have kd:=dX;have ig:=nP a.ae o r;have P:=λT=>kj a o r T;have E:=λT=>ki a a.bare B.cO (aB.sF B) T;rw[aB.gR,A]at E;have C:(aF a.ae).length=6:=rfl;have z:=fo a.ae;have pu:=cG C z;have Q:(AV.A (aF a.ae)).cells=aF a.ae:=rfl;have u0:(aF a.ae)[0]? =J (.S [99,111,112,121]):=by rw[h];rfl
 have u1:(aF a.ae)[1]? =J (.B O):=by rw[h];rfl
 have u2:(aF a.ae)[2]? =J (.B O):=by rw[h];rfl
 have u3:(aF a.ae)[3]? =J (.B O):=by rw[h];rfl
 have u4:(aF a.ae)[4]? =J (.B O):=by rw[h];rfl
 have u5:(aF a.ae)[5]? =J (.B O):=by rw[h];rfl
 have R:=fq;have n1:¬a.ae<1:=by omega
 have n9:¬a.ae>9:=by omega
 have ln:=cl a.raw;have s:¬(a.raw.length:Int)>4096:=by omega
 have hz:([AV.S [],.B O,.B O,.B O,.B O,.B O]:bN)=aU:=rfl;have t:aU.length=6:=rfl;have it:=λT=>b5 a.fst g.f0 g.f1 T;have u:=λT=>b5 a.snd g.s0 g.s1 T;have v:=λT=>b5 a.b_ g.v0 g.v1 T;have l0:=bZ a.fst g.f0 g.f1;have l1:=bZ a.snd g.s0 g.s1;have l2:=bZ a.b_ g.v0 g.v1;have N:b6 .neq (.dA cC) Y .aD .aD=J (.B O):=rfl;have m:∀x y,dq 1 [[AV.S []],[AV.S []]] [(0,.S x),(1,.S y)]=J (strs [x,y]):=λ_ _=>rfl;have l:∀x,dq 1 [[AV.S []]] [(0,.S x)]=J (strs [x]):=λ_=>rfl;have e:a.eG=.bP [.S a.line,.aD]:=by
  have c:a.code=0:=by unfold aB.code;rw[if_neg (λq:¬_=>q ⟨o,r⟩),if_neg (λq:¬_=>q ⟨A,hl⟩),if_neg (by omega),if_neg (by omega)]
  unfold aB.eG;rw[c];rfl
 rw[e];have k:cY 1 (.sl .X 1 (strs [[99,111,112,121],a7 a.fst])) [] (strs [[99,111,112,121],a7 a.fst]):=.inr (.inl rfl);have I:a.ax=[[99,111,112,121],a7 a.fst]:=by simp[aB.ax,cm,cZ,c7,h]
 have j:=λT=>iY [[99,111,112,121],a7 a.fst] (by simp) (by simp[fE];omega) T;have y1:=cY.z6 k;have L:cJ (aH (.sl .X 1 (strs [[99,111,112,121],a7 a.fst])))=.sl .N 1 (a.ax.map λw=>[.S w]):=by rw[I];exact(cY.cJ k).trans (xQ _)
 have y3:=cY.lock k;have y4:=cY.oM k;rw[<-I]at j;rw[show fE [32] a.ax=a.line from rfl]at j;have j:=λT=>ph L (j T);rw[fI Ch];try simp only[hz]
 generalize aF a.ae=U,aM=M,aU=f at*;have v0:∀p:0<U.length,U[0]'p=_:=λp=>ff ((cx p).symm.trans u0);have v1:∀p:1<U.length,U[1]'p=_:=λp=>ff ((cx p).symm.trans u1);have v2:∀p:2<U.length,U[2]'p=_:=λp=>ff ((cx p).symm.trans u2);have v3:∀p:3<U.length,U[3]'p=_:=λp=>ff ((cx p).symm.trans u3);have v4:∀p:4<U.length,U[4]'p=_:=λp=>ff ((cx p).symm.trans u4);have v5:∀p:5<U.length,U[5]'p=_:=λp=>ff ((cx p).symm.trans u5);simp-implicitDefEqProofs [-aE, -ud,dR,X,n1,n9,kd,R.agg,ig,C,z,t,aY,pu,Q,P,E,bw,ln,s,v0,v1,v2,v3,v4,v5,it,u,v,m,l,N,rs,y1,L,y3,y4,dd,cz,j]
def adr(a:aB)(C:a.Wf)(g:a.v7)(S:G)(h:a.ae=7)(B:a.cR=Y)(hl:a.raw.length<=4096):DF F W 12 [.A a.aq] S=J (a.eG,S):=by
 have o:1<=a.ae:=by omega
 have r:a.ae<=9:=by omega
 have gI:∀a b,aE .gtr (.I V a) (.I V b)=J (.B (aN (a>b))):=λ_ _=>rfl;have rs:∀i d x e,(e=.aD\/∃n,e=.dA 59 (.I V n))->cd 12 i [.S x,e] S (S++d)=J (.bP [.S x,e],S):=λi d x e he=>by rcases he with rfl|⟨n,rfl⟩<;>simp[dr,bI,bD,aP,aC,aO]
 have kd:=dX;have ig:=nP a.ae o r;have Q:=λT=>kj a o r T;have I:=λT=>ki a a.bare C.cO (aB.sF C) T;rw[aB.gR,B]at I;have E:(aF a.ae).length=6:=rfl;have A:=fo a.ae;have pu:=cG E A;have R:(AV.A (aF a.ae)).cells=aF a.ae:=rfl;have u0:(aF a.ae)[0]? =J (.S [115,119,97,112]):=by rw[h];rfl
 have u1:(aF a.ae)[1]? =J (.B Y):=by rw[h];rfl
 have u2:(aF a.ae)[2]? =J (.B O):=by rw[h];rfl
 have u3:(aF a.ae)[3]? =J (.B O):=by rw[h];rfl
 have u4:(aF a.ae)[4]? =J (.B O):=by rw[h];rfl
 have u5:(aF a.ae)[5]? =J (.B O):=by rw[h];rfl
 have X:=fq;have n1:¬a.ae<1:=by omega
 have n9:¬a.ae>9:=by omega
 have ln:=cl a.raw;have s:¬(a.raw.length:Int)>4096:=by omega
 have hz:([AV.S [],.B O,.B O,.B O,.B O,.B O]:bN)=aU:=rfl;have t:aU.length=6:=rfl;have it:=λT=>b5 a.fst g.f0 g.f1 T;have u:=λT=>b5 a.snd g.s0 g.s1 T;have v:=λT=>b5 a.b_ g.v0 g.v1 T;have l0:=bZ a.fst g.f0 g.f1;have l1:=bZ a.snd g.s0 g.s1;have l2:=bZ a.b_ g.v0 g.v1;have P:b6 .neq (.dA cC) Y .aD .aD=J (.B O):=rfl;have m:∀x y,dq 1 [[AV.S []],[AV.S []]] [(0,.S x),(1,.S y)]=J (strs [x,y]):=λ_ _=>rfl;have l:∀x,dq 1 [[AV.S []]] [(0,.S x)]=J (strs [x]):=λ_=>rfl;have e:a.eG=.bP [.S a.line,.aD]:=by
  have c:a.code=0:=by unfold aB.code;rw[if_neg (λq:¬_=>q ⟨o,r⟩),if_neg (λq:¬_=>q ⟨B,hl⟩),if_neg (by omega),if_neg (by omega)]
  unfold aB.eG;rw[c];rfl
 rw[e];have h0:cY 1 (.sl .X 1 (strs [[115,119,97,112],a7 a.fst])) [] (strs [[115,119,97,112],a7 a.fst]):=.inr (.inl rfl);have⟨o0,t0,z,j⟩:=cY.app h0 (xs:=strs [a7 a.snd]) (by simp[strs]) (by simp[strs]) .X (S++[.M a.aq [] O,.M (aF a.ae) [] O]);rw[q9,show[[115,119,97,112],a7 a.fst]++[a7 a.snd]=[[115,119,97,112],a7 a.fst,a7 a.snd]from rfl]at j;have L:a.ax=[[115,119,97,112],a7 a.fst,a7 a.snd]:=by simp[aB.ax,cm,cZ,c7,h]
 have k:=λT=>iY [[115,119,97,112],a7 a.fst,a7 a.snd] (by simp) (by simp[fE];omega) T;have y1:=cY.z6 j;have M:cJ (aH o0)=.sl .N 1 (a.ax.map λw=>[.S w]):=by rw[L];exact(cY.cJ j).trans (xQ _)
 have y3:=cY.lock j;have y4:=cY.oM j;rw[<-L]at k;rw[show fE [32] a.ax=a.line from rfl]at k;have k:=λT=>ph M (k T);rw[fI Ch];try simp only[hz]
 generalize aF a.ae=U,aM=N,aU=f at*;have v0:∀p:0<U.length,U[0]'p=_:=λp=>ff ((cx p).symm.trans u0);have v1:∀p:1<U.length,U[1]'p=_:=λp=>ff ((cx p).symm.trans u1);have v2:∀p:2<U.length,U[2]'p=_:=λp=>ff ((cx p).symm.trans u2);have v3:∀p:3<U.length,U[3]'p=_:=λp=>ff ((cx p).symm.trans u3);have v4:∀p:4<U.length,U[4]'p=_:=λp=>ff ((cx p).symm.trans u4);have v5:∀p:5<U.length,U[5]'p=_:=λp=>ff ((cx p).symm.trans u5);try simp at z
 simp-implicitDefEqProofs [-aE, -ud,dR,gI,n1,n9,kd,X.agg,ig,E,A,t,aY,pu,R,Q,I,bw,ln,s,v0,v1,v2,v3,v4,v5,it,u,v,m,l,P,rs,z,y1,M,y3,y4,dd,cz,k]
def ads(a:aB)(L:a.Wf)(g:a.v7)(S:G)(h:a.ae=8)(I:a.cR=Y)(hl:a.raw.length<=4096):DF F W 12 [.A a.aq] S=J (a.eG,S):=by
 have o:1<=a.ae:=by omega
 have r:a.ae<=9:=by omega
 have gI:∀a b,aE .gtr (.I V a) (.I V b)=J (.B (aN (a>b))):=λ_ _=>rfl;have rs:∀i d x e,(e=.aD\/∃n,e=.dA 59 (.I V n))->cd 12 i [.S x,e] S (S++d)=J (.bP [.S x,e],S):=λi d x e he=>by rcases he with rfl|⟨n,rfl⟩<;>simp[dr,bI,bD,aP,aC,aO]
 have kd:=dX;have ig:=nP a.ae o r;have br:=λT=>kj a o r T;have N:=λT=>ki a a.bare L.cO (aB.sF L) T;rw[aB.gR,I]at N;have M:(aF a.ae).length=6:=rfl;have C:=fo a.ae;have pu:=cG M C;have cu:(AV.A (aF a.ae)).cells=aF a.ae:=rfl;have u0:(aF a.ae)[0]? =J (.S [105,110,106,101,99,116]):=by rw[h];rfl
 have u1:(aF a.ae)[1]? =J (.B Y):=by rw[h];rfl
 have u2:(aF a.ae)[2]? =J (.B O):=by rw[h];rfl
 have u3:(aF a.ae)[3]? =J (.B O):=by rw[h];rfl
 have u4:(aF a.ae)[4]? =J (.B O):=by rw[h];rfl
 have u5:(aF a.ae)[5]? =J (.B Y):=by rw[h];rfl
 have dk:=fq;have n1:¬a.ae<1:=by omega
 have n9:¬a.ae>9:=by omega
 have ln:=cl a.raw;have s:¬(a.raw.length:Int)>4096:=by omega
 have hz:([AV.S [],.B O,.B O,.B O,.B O,.B O]:bN)=aU:=rfl;have t:aU.length=6:=rfl;have it:=λT=>b5 a.fst g.f0 g.f1 T;have u:=λT=>b5 a.snd g.s0 g.s1 T;have v:=λT=>b5 a.b_ g.v0 g.v1 T;have l0:=bZ a.fst g.f0 g.f1;have l1:=bZ a.snd g.s0 g.s1;have l2:=bZ a.b_ g.v0 g.v1;have X:b6 .neq (.dA cC) Y .aD .aD=J (.B O):=rfl;have m:∀x y,dq 1 [[AV.S []],[AV.S []]] [(0,.S x),(1,.S y)]=J (strs [x,y]):=λ_ _=>rfl;have l:∀x,dq 1 [[AV.S []]] [(0,.S x)]=J (strs [x]):=λ_=>rfl;have e:a.eG=.bP [.S a.line,.aD]:=by
  have c:a.code=0:=by unfold aB.code;rw[if_neg (λq:¬_=>q ⟨o,r⟩),if_neg (λq:¬_=>q ⟨I,hl⟩),if_neg (by omega),if_neg (by omega)]
  unfold aB.eG;rw[c];rfl
 rw[e];have z:=λT=>Qe a.raw (by omega) T;have l3:=kA a.raw;have l4:(if a.raw=[]then([45]:K)else dI a.raw).length<=8192:=by split<;>first|decide|omega
 have h0:cY 1 (.sl .X 1 (strs [[105,110,106,101,99,116],a7 a.fst])) [] (strs [[105,110,106,101,99,116],a7 a.fst]):=.inr (.inl rfl);have⟨o0,t0,A,E⟩:=cY.app h0 (xs:=strs [a7 a.snd]) (by simp[strs]) (by simp[strs]) .X (S++[.M a.aq [] O,.M (aF a.ae) [] O]);rw[q9,show[[105,110,106,101,99,116],a7 a.fst]++[a7 a.snd]=[[105,110,106,101,99,116],a7 a.fst,a7 a.snd]from rfl]at E;have⟨o1,t1,B,j⟩:=cY.app E (xs:=strs [(if a.raw=[]then[45]else dI a.raw)]) (by simp[strs]) (by simp[strs]) .X (S++[.M a.aq [] O,.M (aF a.ae) [] O]);rw[q9,show[[105,110,106,101,99,116],a7 a.fst,a7 a.snd]++[(if a.raw=[]then[45]else dI a.raw)]=[[105,110,106,101,99,116],a7 a.fst,a7 a.snd,(if a.raw=[]then[45]else dI a.raw)]from rfl]at j;have P:a.ax=[[105,110,106,101,99,116],a7 a.fst,a7 a.snd,(if a.raw=[]then[45]else dI a.raw)]:=by simp[aB.ax,cm,cZ,c7,h]
 have k:=λT=>iY [[105,110,106,101,99,116],a7 a.fst,a7 a.snd,(if a.raw=[]then[45]else dI a.raw)] (by simp) (by simp[fE];omega) T;have y1:=cY.z6 j;have Q:cJ (aH o1)=.sl .N 1 (a.ax.map λw=>[.S w]):=by rw[P];exact(cY.cJ j).trans (xQ _)
 have y3:=cY.lock j;have y4:=cY.oM j;rw[<-P]at k;rw[show fE [32] a.ax=a.line from rfl]at k;have k:=λT=>ph Q (k T);rw[fI Ch];try simp only[hz]
 generalize aF a.ae=U,aM=R,aU=f at*;have v0:∀p:0<U.length,U[0]'p=_:=λp=>ff ((cx p).symm.trans u0);have v1:∀p:1<U.length,U[1]'p=_:=λp=>ff ((cx p).symm.trans u1);have v2:∀p:2<U.length,U[2]'p=_:=λp=>ff ((cx p).symm.trans u2);have v3:∀p:3<U.length,U[3]'p=_:=λp=>ff ((cx p).symm.trans u3);have v4:∀p:4<U.length,U[4]'p=_:=λp=>ff ((cx p).symm.trans u4);have v5:∀p:5<U.length,U[5]'p=_:=λp=>ff ((cx p).symm.trans u5);try simp at A
 try simp at B
 simp-implicitDefEqProofs [-aE, -ud,dR,gI,n1,n9,kd,dk.agg,ig,M,C,t,aY,pu,cu,br,N,bw,ln,s,v0,v1,v2,v3,v4,v5,it,u,v,m,l,X,rs,z,A,B,y1,Q,y3,y4,dd,cz,k]
def adt(a:aB)(C:a.Wf)(g:a.v7)(S:G)(h:a.ae=9)(B:a.cR=Y)(hl:a.raw.length<=4096):DF F W 12 [.A a.aq] S=J (a.eG,S):=by
 have o:1<=a.ae:=by omega
 have r:a.ae<=9:=by omega
 have gI:∀a b,aE .gtr (.I V a) (.I V b)=J (.B (aN (a>b))):=λ_ _=>rfl;have rs:∀i d x e,(e=.aD\/∃n,e=.dA 59 (.I V n))->cd 12 i [.S x,e] S (S++d)=J (.bP [.S x,e],S):=λi d x e he=>by rcases he with rfl|⟨n,rfl⟩<;>simp[dr,bI,bD,aP,aC,aO]
 have kd:=dX;have ig:=nP a.ae o r;have Q:=λT=>kj a o r T;have I:=λT=>ki a a.bare C.cO (aB.sF C) T;rw[aB.gR,B]at I;have E:(aF a.ae).length=6:=rfl;have A:=fo a.ae;have pu:=cG E A;have R:(AV.A (aF a.ae)).cells=aF a.ae:=rfl;have u0:(aF a.ae)[0]? =J (.S [114,101,97,100]):=by rw[h];rfl
 have u1:(aF a.ae)[1]? =J (.B O):=by rw[h];rfl
 have u2:(aF a.ae)[2]? =J (.B Y):=by rw[h];rfl
 have u3:(aF a.ae)[3]? =J (.B O):=by rw[h];rfl
 have u4:(aF a.ae)[4]? =J (.B O):=by rw[h];rfl
 have u5:(aF a.ae)[5]? =J (.B O):=by rw[h];rfl
 have X:=fq;have n1:¬a.ae<1:=by omega
 have n9:¬a.ae>9:=by omega
 have ln:=cl a.raw;have s:¬(a.raw.length:Int)>4096:=by omega
 have hz:([AV.S [],.B O,.B O,.B O,.B O,.B O]:bN)=aU:=rfl;have t:aU.length=6:=rfl;have it:=λT=>b5 a.fst g.f0 g.f1 T;have u:=λT=>b5 a.snd g.s0 g.s1 T;have v:=λT=>b5 a.b_ g.v0 g.v1 T;have l0:=bZ a.fst g.f0 g.f1;have l1:=bZ a.snd g.s0 g.s1;have l2:=bZ a.b_ g.v0 g.v1;have P:b6 .neq (.dA cC) Y .aD .aD=J (.B O):=rfl;have m:∀x y,dq 1 [[AV.S []],[AV.S []]] [(0,.S x),(1,.S y)]=J (strs [x,y]):=λ_ _=>rfl;have l:∀x,dq 1 [[AV.S []]] [(0,.S x)]=J (strs [x]):=λ_=>rfl;have e:a.eG=.bP [.S a.line,.aD]:=by
  have c:a.code=0:=by unfold aB.code;rw[if_neg (λq:¬_=>q ⟨o,r⟩),if_neg (λq:¬_=>q ⟨B,hl⟩),if_neg (by omega),if_neg (by omega)]
  unfold aB.eG;rw[c];rfl
 rw[e];have h0:cY 1 (.sl .X 1 (strs [[114,101,97,100],a7 a.fst])) [] (strs [[114,101,97,100],a7 a.fst]):=.inr (.inl rfl);have⟨o0,t0,z,j⟩:=cY.app h0 (xs:=strs [a7 a.b_]) (by simp[strs]) (by simp[strs]) .X (S++[.M a.aq [] O,.M (aF a.ae) [] O]);rw[q9,show[[114,101,97,100],a7 a.fst]++[a7 a.b_]=[[114,101,97,100],a7 a.fst,a7 a.b_]from rfl]at j;have L:a.ax=[[114,101,97,100],a7 a.fst,a7 a.b_]:=by simp[aB.ax,cm,cZ,c7,h]
 have k:=λT=>iY [[114,101,97,100],a7 a.fst,a7 a.b_] (by simp) (by simp[fE];omega) T;have y1:=cY.z6 j;have M:cJ (aH o0)=.sl .N 1 (a.ax.map λw=>[.S w]):=by rw[L];exact(cY.cJ j).trans (xQ _)
 have y3:=cY.lock j;have y4:=cY.oM j;rw[<-L]at k;rw[show fE [32] a.ax=a.line from rfl]at k;have k:=λT=>ph M (k T);rw[fI Ch];try simp only[hz]
 generalize aF a.ae=U,aM=N,aU=f at*;have v0:∀p:0<U.length,U[0]'p=_:=λp=>ff ((cx p).symm.trans u0);have v1:∀p:1<U.length,U[1]'p=_:=λp=>ff ((cx p).symm.trans u1);have v2:∀p:2<U.length,U[2]'p=_:=λp=>ff ((cx p).symm.trans u2);have v3:∀p:3<U.length,U[3]'p=_:=λp=>ff ((cx p).symm.trans u3);have v4:∀p:4<U.length,U[4]'p=_:=λp=>ff ((cx p).symm.trans u4);have v5:∀p:5<U.length,U[5]'p=_:=λp=>ff ((cx p).symm.trans u5);try simp at z
 simp-implicitDefEqProofs [-aE, -ud,dR,gI,n1,n9,kd,X.agg,ig,E,A,t,aY,pu,R,Q,I,bw,ln,s,v0,v1,v2,v3,v4,v5,it,u,v,m,l,P,rs,z,y1,M,y3,y4,dd,cz,k]
def v_(a:aB)(c:a.Wf)(d:a.v7)(S:G):DF F W 12 [.A a.aq] S=J (a.eG,S):=by
 by_cases h:1<=a.ae/\a.ae<=9;rotate_left;·exact Zn a S h
 by_cases b:a.cR=Y/\a.raw.length<=4096;rotate_left;·exact WZ a c S h.1 h.2 b
 rcases qm h.1 h.2 with k|k|k|k|k|k|k|k|k;·exact adl a c d S k b.1 b.2
 ·exact adm a c d S k b.1 b.2
 ·exact adn a c d S k b.1 b.2
 ·exact ado a c d S k b.1 b.2
 ·exact adp a c d S k b.1 b.2
 ·exact adq a c d S k b.1 b.2
 ·exact adr a c d S k b.1 b.2
 ·exact ads a c d S k b.1 b.2
 ·exact adt a c d S k b.1 b.2
def OB(k:Nat)(h:k<10):aM[k*6]? =J (.S (cm (k:Int))):=by
 have a:k=0\/k=1\/k=2\/k=3\/k=4\/k=5\/k=6\/k=7\/k=8\/k=9:=by omega
 rcases a with rfl|rfl|rfl|rfl|rfl|rfl|rfl|rfl|rfl|rfl<;>rfl
def TJ(k m:Int)(c:1<=k)(d:k<=9)(a:1<=m)(b:m<=9)(h:cm k=cm m):k=m:=by rcases qm c d with rfl|rfl|rfl|rfl|rfl|rfl|rfl|rfl|rfl<;>rcases qm a b with rfl|rfl|rfl|rfl|rfl|rfl|rfl|rfl|rfl<;>first|rfl|(exact absurd h (by decide))
def Jh(i k:Nat)(h:k<10):o_ 10 6 (.P i 0) (.I V (k:Int))=J (.P i (k*6)):=by simp only[o_];rw[if_neg (by omega),if_pos (by omega)];simp
def kC(x:Int):bN:=dm x 0 0 0 ag ad .ar
def uA(d:Int)(C:1<=d)(E:d<=9)(ws:List K)(X:eR)(ab:ch)(S:G):∀(n k:Nat),k+n=10->1<=k->
 DC F W (.L Ax) ⟨[(2,.P S.length 0),(4,.P (S.length+1) 0),(5,.P (S.length+2) 0),(6,.P (S.length+3) 0),(7,.I V (k:Int))],ab,S.length⟩ (S++[X,gw (cm d::ws) .aD,.M (kC (if d<(k:Int)then d else 0)) [] O,.M aM [] O])=
  J (.E 0,⟨[(2,.P S.length 0),(4,.P (S.length+1) 0),(5,.P (S.length+2) 0),(6,.P (S.length+3) 0)],ab,S.length⟩,S++[X,gw (cm d::ws) .aD,.M (kC d) [] O,.M aM [] O]):=by
 intro n;induction n with
 |zero=>
  intro k I o;have e:k=10:=by omega
  subst e;rw[if_pos (by omega)];rw[av,bf dw];simp[-aE,dR]
 |succ n M=>
  intro k I o;have g:=M (k+1) (by omega) (by omega);have v:(k:Int)<10:=by omega
  have t:=Jh (S.length+3) k (by omega);have p:∀b c,bk (S++[b,c,.M (kC (if d<(k:Int)then d else 0)) [] O,.M aM [] O]) .C (.P (S.length+3) (k*6))=J (.S (cm (k:Int))):=λb c=>by rw[bV (cS S [b,c,.M _ [] O,.M aM [] O] 3),uW,OB k (by omega)]
  have m:=sr (S:=S++[X,gw (cm d::ws) .aD,.M (kC (if d<(k:Int)then d else 0)) [] O,.M aM [] O]) (j:=S.length+1) (ws:=cm d::ws) (e:=.aD) (cS S _ 1);have r:=Dv (cm d) ws;have u:∀T x,bk T .C (.dP .N [.S x] 0)=J (.S x):=λ_ _=>rfl;have h:∀i,cn (.P i 0)=J (.P i 0):=λ_=>rfl;have l:=kD (cm (k:Int)) (cm d);have s:gh V ((k:Int)+1)=((k+1:Nat):Int):=bj (by omega);by_cases f:(k:Int)=d
  ·have z:(if d<(k:Int)then d else 0)=0:=if_neg (by omega)
   have A:(if d<((k+1:Nat):Int)then d else 0)=d:=if_pos (by omega);rw[A]at g;rw[z]at p m⊢;rw[decide_eq_true (by rw[f])]at l;have P:∀b c,a_ ab S.length (S++[b,c,.M (kC 0) [] O,.M aM [] O]) 1 (.P (S.length+2) 0) (.I V (k:Int))=J (ab,S++[b,c,.M (kC d) [] O,.M aM [] O]):=λb c=>by rw[en (mm V (k:Int)).y_ (cS S [b,c,.M (kC 0) [] O,.M aM [] O] 2),if_pos ⟨rfl,by show 0+1<=(kC 0).length;rw[show(kC 0).length=35 from gu rfl rfl];omega⟩,show aV (kC 0) 0 (AV.I V (k:Int)).cells=kC (k:Int)from rfl,f];simp
   generalize AV.sl .N 1 (strs (cm d::ws))=L,gw (cm d::ws) .aD=R,aM=a,kC 0=w,kC d=y at*;rw[av,bf dw];simp-implicitDefEqProofs [-aE, -bG, -o_,dR,v,t,p,m,r,u,h,l,P,ku];rw[ak dw];try simp at g
   simp-implicitDefEqProofs [-aE,s,g]
  ·have B:(if d<((k+1:Nat):Int)then d else 0)=(if d<(k:Int)then d else 0):=by
    by_cases q:d<(k:Int);·rw[if_pos q,if_pos (by omega)]
    ·rw[if_neg q,if_neg (by omega)]
   rw[B]at g;have N:¬cm (k:Int)=cm d:=λq=>f (TJ _ _ (by omega) (by omega) C E q);rw[decide_eq_false N]at l;generalize AV.sl .N 1 (strs (cm d::ws))=L,gw (cm d::ws) .aD=R,aM=a,kC (if d<(k:Int)then d else 0)=w,kC d=y at*;rw[av,bf dw];simp-implicitDefEqProofs [-aE, -bG, -o_,dR,v,t,p,m,r,u,h,l,ku];rw[ak dw];try simp at g
   simp-implicitDefEqProofs [-aE,s,g]
end Go.Proofs.YteipnkjhnbaipaaGreatDoor.am
