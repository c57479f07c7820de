/- Parts. No condition. -/
import Derived.KernelRfl
import Derived.Test.YtampclodiifalaaGreatDoorRows
import Derived.WideShapes
import Derived.RowKitTokens
import Derived.Test.YtampclodiifalaaGreatDoorTie
import Derived.Test.YtampclodiifalaaGreatDoorCards
import Derived.SevenTiedAt
import Derived.Test.YtampclodiifalaaGreatDoorQI
set_option linter.all false
namespace Go.Proofs.YtampclodiifalaaGreatDoor.am
open Go
theorem bn.rR:∀(d:Nat)(l:bn),l.Wf->l.aR d=true->l.bytes.length<=149000000+100*d:=by
 intro d;induction d with
 |zero=>intro l _ h;simp[bn.aR]at h
 |succ d ih=>
  intro l hl h;have R:=bn.fa h;have ea:=iM (fN R.a) (by omega);have eb:(if uD l.kind=true then aM l.b else[]).length<=22:=by
   split;·rename_i k;exact iM (fN (R.b1 k).1) (by omega)
   ·simp
  have et:(if sd l.kind=true then l.type.bytes++l.base.bytes else[]).length<=148517200:=by
   split
   ·rename_i k
    have r:=nU (R.t1 k);have:=aX.kZ hl.one.base r.1;have:=bj.kZ r.2;simp;omega
   ·simp
  have ek:(if uQ l.kind=true then l.back.bytes++(bI l.aO.length++l.aO.flatMap j8)else[]).length<=2000:=by
   split
   ·rename_i k
    obtain⟨a,b,c,e⟩:=R.y1 k;have s1:=zM hl.one.back b;have s2:=Hx l.type a l.aO hl.one.pair e;have s3:=eN (n:=l.aO.length) (by omega);simp only[gP];omega
   ·simp
  rw[bn.AQ];simp only[jC,gP];cases hu:xw l.kind;·rw[R.i0 hu];simp[bn.eU];omega
  ·obtain⟨x,hx⟩:=Ht.1 (R.i1 hu)
   have:=ih x (hl.all x (by rw[hx];simp)) (R.all x (by rw[hx];simp));have ht:sd l.kind=false/\uQ l.kind=false:=by unfold xw at hu;simp at hu;rcases hu with k|k<;>rw[k]<;>decide
   rw[hx,ht.1,ht.2];simp[bn.eU];omega
theorem ab5(l:bn)(hl:l.aO.length<=8)(hw:∀p∈l.aO,p.x.Wr/\p.y.Wr)(S:St)(nb:Nat):
 ∀d i(aW:AV)(aa:List (Option Nat))(s:bq),i+d=l.aO.length->mU aW aa s->s.length+((l.aO.drop i).flatMap j8).length+100<=1073741824->
 ∃dH aG,mU dH aG (s++(l.aO.drop i).flatMap j8)/\DC ax nk (.loop gV) ⟨[(1,.ptr S.length 0),(3,aW),(4,.int .i64 (i:Nat))],aa,nb⟩ (S++[.mem l.ai [] false])=some (.exit 0,⟨[(1,.ptr S.length 0),(3,dH)],aG,nb⟩,S++[.mem l.ai [] false]):=by
 intro d;induction d with
 |zero=>
  intro i aW aa s hi ho hb;have K9:¬i<l.aO.length:=by omega
  have e3:l.aO.drop i=[]:=dV (by omega);refine⟨aW,aa,by rw[e3,TC,kH];exact ho, ?_⟩;rw[aj,ak gV.eq_1];simp[K9]
 |succ d ih=>
  intro i aW aa s hi ho hb;have h3:i<l.aO.length:=by omega
  obtain⟨y,hy,gg⟩:=aE (l:=l.aO) (i:=i) (by omega);have hw':=aV (i:=i) (by omega);have hf:=hw y (eT hy);rw[aJ hy,z6]at hb⊢;simp only[gP]at hb;have ep:(j8 y).length=y.x.bytes.length+y.y.bytes.length:=by simp[j8]
  obtain⟨ra,ra1,R9⟩:=qx 5 y.x hf.1.wf hf.1.right (by omega) (S++[.mem l.ai [] false]);obtain⟨rb,rb1,rb2⟩:=qx 5 y.y hf.2.wf hf.2.right (by omega) (S++[.mem l.ai [] false]);obtain⟨o1,t1,o2,t2,a1,a2,a3⟩:=ho.call ra1 (by omega) (S++[.mem l.ai [] false]);obtain⟨o3,t3,o4,t4,b1,b2,b3⟩:=a3.call rb1 (by simp;omega) (S++[.mem l.ai [] false]);obtain⟨dH,aG,JG,hn⟩:=ih (i+1) o4 t4 (s++y.x.bytes++y.y.bytes) (by omega) b3 (by simp only[gP];omega);refine⟨dH,aG,by unfold j8 at JG⊢;simpa using JG, ?_⟩;rw[aj,ak gV.eq_1];simp at hw' hn a2 b2;simp[h3,gg,R9,a1,a2,rb2,b1,b2];rw[ae gV.eq_1];simp[hw',hn]
theorem abG:∀(d:Nat)(l:bn),l.Wf->l.aR d=true->d<=5->∀S,∃r,J7 r l.bytes/\DF ax nk 65 [.agg l.ai] S=some (r,S):=by
 intro d;induction d with
 |zero=>intro v _ h;simp[bn.aR]at h
 |succ d ih=>
  intro l hl h hd S;have R:=bn.fa h;have hle:=bn.rR (d+1) l hl h;have lb:=l.AQ;have k1:=R.k1;have k10:=R.k10;have wk:=Bm (k:=l.kind) (by omega) (by omega);have u5:=ZD R.k1 R.k10;have la:=fN R.a;have ea:=iM la (by omega);have ho:=mU.new (UInt8.ofNat l.kind.toNat) [];have bsa:=Jn (s:=l.a) (by omega);obtain⟨ra,ra1,R9⟩:=tj l.a (S++[.mem l.ai [] false]) (by omega);obtain⟨o1,t1,o2,t2,a1,a2,a3⟩:=ho.call ra1 (by simp;omega) (S++[.mem l.ai [] false]);have hN:=wx l.kind (S++[.mem l.ai [] false]);have hT:=wy l.kind (S++[.mem l.ai [] false]);rw[EU,ak qd.eq_1];rcases u5 with⟨ub,ut,uy⟩|⟨ub,ut,uy⟩|⟨ub,ut,uy⟩|⟨ub,ut,uy⟩
  ·have kk:¬l.kind=8/\¬8<l.kind:=by unfold uD at ub;simp at ub;omega
   have hi:l.bf=[]:=R.i0 (by
    unfold xw;have:¬l.kind=9:=by omega
    have:¬l.kind=10:=by omega
    simp[*])
   have lbb:=fN (R.b1 ub).1;have ebb:=iM lbb (by omega);have bsb:=Jn (s:=l.b) (by omega);obtain⟨rb,rb1,rb2⟩:=tj l.b (S++[.mem l.ai [] false]) (by omega);obtain⟨o3,t3,o4,t4,b1,b2,b3⟩:=a3.call rb1 (by simp;omega) (S++[.mem l.ai [] false]);obtain⟨r,t,f1,f2,f3,f4,f5⟩:=b3.fin;have eb:l.bytes=[UInt8.ofNat l.kind.toNat]++aM l.a++aM l.b:=by rw[lb,if_pos ub,ut,uy,hi];simp[bn.eU]
   refine⟨r,by rw[eb];exact f5, ?_⟩;rw[ub]at hN;rw[ut]at hT;generalize UInt8.ofNat l.kind.toNat=u at*;simp[wk,bsa,so,su,lr,ma,R9,a1,a2,hN,hT,kk.1,kk.2,bsb,rb2,b1,b2,f1,f2,f3,f4]
  ·have kk:¬l.kind=8/\¬8<l.kind:=by unfold sd at ut;unfold uQ at uy;simp at ut uy;omega
   have hi:l.bf=[]:=R.i0 (by
    unfold xw;have:¬l.kind=9:=by omega
    have:¬l.kind=10:=by omega
    simp[*])
   have hr:=nU (R.t1 ut);have s1:=bj.kZ hr.2;have s2:=aX.kZ hl.one.base hr.1;obtain⟨rb,rb1,rb2⟩:=QB 5 l.type hl.one.type hr.2 (by omega) (S++[.mem l.ai [] false]);obtain⟨o3,t3,o4,t4,b1,b2,b3⟩:=a3.call rb1 (by simp;omega) (S++[.mem l.ai [] false]);obtain⟨rc,rc1,rc2⟩:=qx 5 l.base hl.one.base hr.1 (by omega) (S++[.mem l.ai [] false]);obtain⟨o5,t5,o6,t6,c1,c2,c3⟩:=b3.call rc1 (by simp;omega) (S++[.mem l.ai [] false]);obtain⟨r,t,f1,f2,f3,f4,f5⟩:=c3.fin;have eb:l.bytes=[UInt8.ofNat l.kind.toNat]++aM l.a++l.type.bytes++l.base.bytes:=by rw[lb,ub,if_pos ut,uy,hi];simp[bn.eU]
   refine⟨r,by rw[eb];exact f5, ?_⟩;rw[ub]at hN;rw[ut]at hT;generalize UInt8.ofNat l.kind.toNat=u at*;simp[wk,bsa,so,su,lr,ma,R9,a1,a2,hN,hT,kk.1,kk.2,rb2,b1,b2,rc2,c1,c2,f1,f2,f3,f4]
  ·rw[ub]at hN
   rw[ut]at hT;have k8:¬l.kind=8:=by unfold uQ at uy;simpa using uy
   cases hu:xw l.kind
   ·have kk:¬8<l.kind:=by unfold xw at hu;simp at hu;omega
    have hi:l.bf=[]:=R.i0 hu;obtain⟨r,t,f1,f2,f3,f4,f5⟩:=a3.fin;have eb:l.bytes=[UInt8.ofNat l.kind.toNat]++aM l.a:=by rw[lb,ub,ut,uy,hi];simp[bn.eU]
    refine⟨r,by rw[eb];exact f5, ?_⟩;generalize UInt8.ofNat l.kind.toNat=u at*;simp[wk,bsa,so,su,lr,ma,R9,a1,a2,hN,hT,k8,kk,f1,f2,f3,f4]
   ·have kk:8<l.kind:=by unfold xw at hu;simp at hu;omega
    obtain⟨x,hx⟩:=Ht.1 (R.i1 hu);have hxl:=bn.rR d x (hl.all x (by rw[hx];simp)) (R.all x (by rw[hx];simp));obtain⟨rb,rb1,rb2⟩:=ih x (hl.all x (by rw[hx];simp)) (R.all x (by rw[hx];simp)) (by omega) (S++[.mem l.ai [] false]);obtain⟨o3,t3,o4,t4,b1,b2,b3⟩:=a3.call rb1 (by simp;omega) (S++[.mem l.ai [] false]);obtain⟨r,t,f1,f2,f3,f4,f5⟩:=b3.fin;have eb:l.bytes=[UInt8.ofNat l.kind.toNat]++aM l.a++x.bytes:=by rw[lb,ub,ut,uy,hx];simp[bn.eU]
    have ix:=D2 l.bf .i64 0;rw[hx]at ix;simp at ix;refine⟨r,by rw[eb];exact f5, ?_⟩;generalize UInt8.ofNat l.kind.toNat=u at*;simp[wk,bsa,so,su,lr,ma,R9,a1,a2,hN,hT,k8,kk,hx,ix,rb2,b1,b2,f1,f2,f3,f4]
  ·have k8:l.kind=8:=by unfold uQ at uy;simpa using uy
   have hi:l.bf=[]:=R.i0 (by rw[k8];decide);have hr:=nU (R.t1 ut);have s1:=bj.kZ hr.2;have s2:=aX.kZ hl.one.base hr.1;obtain⟨q1,q2,q3,q4⟩:=R.y1 uy;have s3:=zM hl.one.back q2;have s4:=Hx l.type q1 l.aO hl.one.pair q4;have q2':=q2;unfold iF at q2';simp only[dk]at q2';obtain⟨w0,n0⟩:=aef (n:=l.aO.length) (by omega);obtain⟨rb,rb1,rb2⟩:=QB 5 l.type hl.one.type hr.2 (by omega) (S++[.mem l.ai [] false]);obtain⟨o3,t3,o4,t4,b1,b2,b3⟩:=a3.call rb1 (by simp;omega) (S++[.mem l.ai [] false]);obtain⟨rc,rc1,rc2⟩:=qx 5 l.base hl.one.base hr.1 (by omega) (S++[.mem l.ai [] false]);obtain⟨o5,t5,o6,t6,c1,c2,c3⟩:=b3.call rc1 (by simp;omega) (S++[.mem l.ai [] false]);obtain⟨rd,rd1,rd2⟩:=qx 5 l.back hl.one.back q2'.1 (by omega) (S++[.mem l.ai [] false]);obtain⟨o7,t7,o8,t8,d1,d2,d3⟩:=c3.call rd1 (by simp;omega) (S++[.mem l.ai [] false]);obtain⟨o9,t9,e1,e2⟩:=d3.one (UInt8.ofNat l.aO.length) (by simp;omega) (S++[.mem l.ai [] false]);obtain⟨oA,tA,g1,g2⟩:=ab5 l q3 (bn.UP hl R uy) S S.length l.aO.length 0 o9 t9 _ (by omega) e2 (by simp only[gP,jC,Ov,jS];omega);obtain⟨r,t,f1,f2,f3,f4,f5⟩:=g1.fin;have eb:l.bytes=[UInt8.ofNat l.kind.toNat]++aM l.a++l.type.bytes++l.base.bytes++l.back.bytes++[UInt8.ofNat l.aO.length]++(l.aO.drop 0).flatMap j8:=by rw[lb,ub,if_pos ut,if_pos uy,hi,n0];simp[bn.eU]
   refine⟨r,by rw[eb];exact f5, ?_⟩;rw[ub,k8]at hN;rw[ut,k8]at hT;have wk:IntKind.wrap .u8 8=(((UInt8.ofNat l.kind.toNat).toNat:Nat):Int):=by rw[<-wk,k8]
   generalize UInt8.ofNat l.kind.toNat=u at*;generalize UInt8.ofNat l.aO.length=w at*;simp at g2;simp[wk,w0,bsa,so,su,lr,ma,R9,a1,a2,hN,hT,k8,rb2,b1,b2,rc2,c1,c2,rd2,d1,d2,e1];rw[ae gV.eq_1];simp[g2,k8,f1,f2,f3,f4]
theorem mU.arr{aW:AV}{aa:List (Option Nat)}{s b:bq}(h:mU aW aa s){x:AV}{S:St}(hx:bL S x=some (1,bW b))(hb:b≠[])(hl:s.length+b.length<=1073741824):
 ∃o2 t2,cb 1 aa S aW x=some (o2,t2,S)/\mU o2 t2 (s++b):=by
 obtain⟨o2,t2,c1,c2⟩:=g7.apw h (xs:=bW b) (fun e=>hb ((kN _).1 e)) (by simp;omega) hx;rw[<-JM]at c2;exact⟨o2,t2,c1,c2⟩
def Vs(S:St)(e:aaf)(G:List cF):St:=S++(.mem e.ai [] false::G)
theorem aiU(S:St)(e:aaf)(G:List cF):(Vs S e G)[S.length]? =some (.mem e.ai [] false):=by have:=get_at S (.mem e.ai [] false::G) 0;rw[sR]at this;exact this
theorem atC(S:St)(e:aaf)(G:List cF)(k:Nat):(Vs S e G)[S.length+(k+1)]? =G[k]? :=get_at S _ (k+1)
theorem ae9(S:St)(e:aaf)(G:List cF):(Vs S e G).length=S.length+(G.length+1):=by simp[Vs]
theorem Y4(S:St)(e:aaf)(G H:List cF):Vs S e G++H=Vs S e (G++H):=by simp[Vs]
theorem abE(S:St)(e:aaf)(G:List cF):(Vs S e G).take S.length=S:=Fu rfl
theorem OX(S:St)(e:aaf)(G:List cF)(sh:Sh)(off:Nat):aY (Vs S e G) sh (.ptr S.length off)=fC sh e.ai off:=bd (aiU ..) sh off
theorem adX(e:aaf)(he:e.Wf)(h4:e.az.length<=4)(S:St):∀d i(G:List cF)(s:bq)(aW:AV)(aa:List (Option Nat)),i+d=e.az.length->s.length+32*d<=1000->mU aW aa s->
 ∃G' dH aG,DC ax nk (.loop fU) ⟨[(1,.ptr S.length 0),(3,aW),(4,.int .i64 (i:Nat))],aa,S.length⟩ (Vs S e G)=
  some (.exit 0,⟨[(1,.ptr S.length 0),(3,dH)],aG,S.length⟩,Vs S e G')/\mU dH aG (s++(e.az.drop i).flatten):=by
 have A:=he.toOk;intro d;induction d with
 |zero=>
  intro i G s aW aa hi hs ho;have h5:¬i<e.az.length:=by omega
  have e3:e.az.drop i=[]:=dV (by omega);refine⟨G,aW,aa, ?_,by rw[e3];simpa using ho⟩;rw[aj,ak fU.eq_1];simp[h5,OX,A]
 |succ d ih=>
  intro i G s aW aa hi hs ho;have h3:i<e.az.length:=by omega
  obtain⟨y,hy,gg⟩:=aE (l:=e.az) (i:=i) (by omega);have hw:=aV (i:=i) (by omega);have Vr:=A.az y (eT hy);have yn:y≠[]:=by intro h;rw[h]at Vr;simp at Vr
  have el:bL (Vs S e (G++[.mem (aK y) [] false])) (.aref (S.length+(G.length+1)) 0 32 32 1)=some (1,bW y):=CW (cs:=aK y) (bt:=[]) (b:=false) (by rw[atC];simp) (by unfold sub;simp;exact gO (by simp[Vr])) Vr (by simp[Vr]);obtain⟨o2,t2,a1,a2⟩:=ho.arr el yn (by omega);obtain⟨G',dH,aG,n1,n2⟩:=ih (i+1) (G++[.mem (aK y) [] false]) (s++y) o2 t2 (by omega) (by simp[Vr];omega) a2;refine⟨G',dH,aG, ?_,by rw[aJ hy,P5,<-fB];exact n2⟩;rw[aj,ak fU.eq_1];have st:∀aa,bg aa S.length (Vs S e (G++[.mem aD [] false])) 32 (.ptr (S.length+(G.length+1)) 0) (.agg (aK y))=some (aa,Vs S e (G++[.mem (aK y) [] false])):=fun aa=>by rw[<-Y4,<-Y4,<-ae9 S e G,mS (jE (cH y))];simp[AV.cells,Vr,bX]
  simp at hw n1;simp[h3,gg,Vr,A,OX,Y4,ae9,st,xD,a1];rw[ae fU.eq_1];simp[hw,n1]
theorem adY(e:aaf)(he:e.Wf)(hs:e.cO=true)(S:St):∃r,J7 r e.od/\DF ax nk 26 [.agg e.ai] S=some (r,S):=by
 have A:=he.toOk;unfold aaf.cO at hs;simp only[dk,P1,decide_eq_true_eq]at hs;obtain⟨⟨h4,hri⟩,hk⟩:=hs;have kr:e.kind=1\/e.kind=2:=by rcases hk with h|h;exact .inl h.1;exact .inr h.1
 have Fw:=A.aP;have LY:=A.key;have vn:e.aP≠[]:=by intro h;rw[h]at Fw;simp at Fw
 have kn:e.key≠[]:=by intro h;rw[h]at LY;simp at LY
 have VO:=Bm (k:=e.kind) (by omega) (by omega);have hn:bI e.az.length=[UInt8.ofNat e.az.length]:=by rw[bI,if_pos (by omega)]
 have wn:IntKind.wrap .u8 (e.az.length:Int)=((UInt8.ofNat e.az.length).toNat:Int):=by have:=Bm (k:=(e.az.length:Int)) (by omega) (by omega);simpa using this
 have w0:S++[cF.mem e.ai [] false]=Vs S e []:=rfl;have hb:=mU.new (UInt8.ofNat e.kind.toNat) [];have ev:∀G,bL (Vs S e G) (.aref S.length 1 32 32 1)=some (1,bW e.aP):=fun G=>CW (aiU ..) (aaf.s1 A) Fw (by simp[A]);have ek:∀G,bL (Vs S e G) (.aref S.length 64 32 32 1)=some (1,bW e.key):=fun G=>CW (aiU ..) (aaf.Xw A) LY (by simp[A]);obtain⟨o1,t1,a1,a2⟩:=hb.arr (ev []) vn (by simp[Fw]);obtain⟨o2,t2,b1,b2⟩:=a2.one (UInt8.ofNat e.az.length) (by simp[Fw]) (Vs S e []);obtain⟨G,o3,t3,l1,l2⟩:=adX e he h4 S e.az.length 0 [] _ o2 t2 (by omega) (by simp[Fw];omega) b2;have AX:=OT A;have atD:([UInt8.ofNat e.kind.toNat]++e.aP++[UInt8.ofNat e.az.length]++(e.az.drop 0).flatten).length=34+32*e.az.length:=by simp[Fw, -List.length_flatten,AX];omega
 have ae4:(e.kind=1/\Oe e.op=true/\e.part=wm e.op)\/(e.kind=2/\e.lens.aR 5=true/\e.part=e.lens.bytes):=by
  rcases hk with⟨h1,h2,_⟩|⟨h1,h2,_⟩;·exact .inl ⟨h1,h2,by unfold aaf.part;rw[if_pos h1]⟩
  ·exact .inr ⟨h1,h2,by unfold aaf.part;rw[if_neg (by omega)]⟩
 have eb:∀p,[UInt8.ofNat e.kind.toNat]++e.aP++[UInt8.ofNat e.az.length]++(e.az.drop 0).flatten++p++e.key=UInt8.ofNat e.kind.toNat::(e.aP++(bI e.az.length++(e.az.flatten++(p++e.key)))):=fun p=>by simp[hn]
 rw[F4,ak rf.eq_1];rcases ae4 with⟨k,hr,ep⟩|⟨k,hr,ep⟩
 ·have hle:=Y5 he.op hr
  obtain⟨rp,rp1,rp2⟩:=abF e.op he.op hr (Vs S e G);obtain⟨o4,t4,o5,t5,c1,c2,c3⟩:=l2.call rp1 (by omega) (Vs S e G);obtain⟨o6,t6,d1,d2⟩:=c3.arr (ek G) kn (by rw[gP,atD,LY];omega);obtain⟨r,t,f1,f2,f3,f4,f5⟩:=d2.fin;refine⟨r,by unfold aaf.od;rw[ep,<-eb];exact f5, ?_⟩;have wk:IntKind.wrap .u8 1=(((UInt8.ofNat e.kind.toNat).toNat:Nat):Int):=by rw[<-VO,k]
  generalize UInt8.ofNat e.kind.toNat=u at*;generalize UInt8.ofNat e.az.length=pu at*;simp at l1;simp[w0,A,k,wk,wn,OX,xD,a1,b1];rw[ae fU.eq_1];simp[l1,A,k,OX,rp2,c1,c2,xD,d1,f1,f2,f3,f4,abE]
 ·have hle:=bn.rR 5 e.lens he.lens hr
  obtain⟨rp,rp1,rp2⟩:=abG 5 e.lens he.lens hr (by omega) (Vs S e G);obtain⟨o4,t4,o5,t5,c1,c2,c3⟩:=l2.call rp1 (by omega) (Vs S e G);obtain⟨o6,t6,d1,d2⟩:=c3.arr (ek G) kn (by rw[gP,atD,LY];omega);obtain⟨r,t,f1,f2,f3,f4,f5⟩:=d2.fin;refine⟨r,by unfold aaf.od;rw[ep,<-eb];exact f5, ?_⟩;have wk:IntKind.wrap .u8 2=(((UInt8.ofNat e.kind.toNat).toNat:Nat):Int):=by rw[<-VO,k]
  generalize UInt8.ofNat e.kind.toNat=u at*;generalize UInt8.ofNat e.az.length=pu at*;simp at l1;simp[w0,A,k,wk,wn,OX,xD,a1,b1];rw[ae fU.eq_1];simp[l1,A,k,OX,rp2,c1,c2,xD,d1,f1,f2,f3,f4,abE]
theorem abH(e:aaf)(he:e.Wf)(hs:e.cO=true)(hl:e.od.length<=1000000000)(S:St):∃r,J7 r e.bytes/\DF ax nk 10 [.agg e.ai] S=some (r,S):=by
 have A:=he.toOk;have sn:e.sig≠[]:=by intro h;have:=A.sig;rw[h]at this;simp at this
 obtain⟨r,h1,h2⟩:=adY e he hs (S++[.mem e.ai [] false]);obtain⟨o,t,a1,a2⟩:=h1.1.take [];have a3:mU o t e.od:=a2;have es:bL (S++[.mem e.ai [] false]) (.aref S.length 96 64 64 1)=some (1,bW e.sig):=CW (x:=e.sig) (bt:=[]) (b:=false) (by simp) (aaf.s96 A) A.sig (by simp[A]);obtain⟨o2,t2,b1,b2⟩:=a3.arr es sn (by rw[A.sig];omega);obtain⟨q,t',f1,f2,f3,f4,f5⟩:=b2.fin;refine⟨q,f5, ?_⟩;rw[D8,ak pJ.eq_1];simp[A,h2,a1,xD,b1,f1,f2,f3,f4]
theorem abI(a b:bq)(nb:Nat)(S:St)(n:Nat)(ha:a.length=n)(hb:b.length=n)(hn:n<9223372036854775808):∀d i,i+d=n->
 DC ax nk (.loop gR) ⟨[(0,bO a),(1,bO b),(5,.int .i64 (i:Nat))],[],nb⟩ S=
  if a.drop i=b.drop i then some (.exit 0,⟨[],[],nb⟩,S)else some (.ret,⟨[(4,.bool false)],[],nb⟩,S):=by
 have ln:∀s,gj (bO s)=some (.int .i64 (s.length:Int)):=fun s=>by cases s<;>simp[bO,iA,gj]
 intro d;induction d with
 |zero=>
  intro i hi;rw[aj,ak gR.eq_1];have h3:a.drop i=[]:=dV (by omega);have h4:b.drop i=[]:=dV (by omega);have h5:¬i<n:=by omega
  simp[h3,h4,h5,ln,ha]
 |succ d ih=>
  intro i hi;have h3:i<n:=by omega
  rw[aj,ak gR.eq_1];obtain⟨x,hx,kM⟩:=aE (l:=a) (i:=i) (by omega);obtain⟨y,hy,gg⟩:=aE (l:=b) (i:=i) (by omega);rw[aJ hx,aJ hy];have Cr:=ih (i+1) (by omega);have hw:=aV (i:=i) (by omega)
  have ix:∀(s:bq) z,s[i]? =some z->oa 1 (bO s) (.int .i64 (i:Int))=some (.ec .none [gy z] 0):=fun s z h=>by
   have nV:s≠[]:=by intro e;rw[e]at h;simp at h
   have e1:bO s=.sl .none 1 (J6 s):=by cases s with
    |nil=>exact absurd rfl nV
    |cons a r=>rfl
   rw[e1,aiV,h];rfl
  have ixa:=ix a x hx;have ixb:=ix b y hy;simp at Cr hw;by_cases e:x=y
  ·subst e
   simp[h3,ln,ha,ixa,ixb,gy];rw[ae gR.eq_1];simp[hw,Cr]
  ·have e':¬x.toNat=y.toNat:=fun h=>e (UInt8.toNat_inj.1 h)
   simp[h3,ln,ha,ixa,ixb,gy,e,e']
theorem abJ(a b:bq)(hn:a.length<9223372036854775808)(S:St):DF ax nk 12 [bO a,bO b] S=some (.bool (decide (a=b)),S):=by
 have ln:∀s,gj (bO s)=some (.int .i64 (s.length:Int)):=fun s=>by cases s<;>simp[bO,iA,gj]
 rw[D9,ak pK.eq_1];by_cases hl:a.length=b.length
 ·have h:=abI a b S.length S a.length rfl hl.symm hn a.length 0 (by omega)
  simp at h;simp[ln,hl];rw[ae gR.eq_1];by_cases e:a=b
  ·simp[e]at h
   simp[h,e]
  ·simp[e]at h
   simp[h,e]
 ·have e:a≠b:=fun e=>hl (by rw[e])
  simp[ln,hl,e]
def fo(x:UInt32):AV:=.int .u32 (x.toNat:Int)
def ov(x:UInt64):AV:=.int .u64 (x.toNat:Int)
@[simp]theorem ab_(x:UInt32):wb (fo x):=M5 .u32 _
@[simp]theorem aun(x:UInt64):wb (ov x):=M5 .u64 _
@[simp]theorem axw(x:UInt32):bu (fo x)=true:=rfl
@[simp]theorem axx(x:UInt32):bD (fo x)=fo x:=rfl
@[simp]theorem axy(t:List (Option Nat))(x:UInt32):a9 t (fo x)=(fo x,t):=rfl
@[simp]theorem axz(x:UInt32):aw (fo x)=true:=rfl
@[simp]theorem axA(S:St)(x:UInt32):bN S (fo x)=some (fo x):=rfl
@[simp]theorem axB(S:St)(x:UInt32):cg S (fo x)=S:=rfl
@[simp]theorem axC(S S':St)(x:UInt32):bB S S' (fo x)=S':=rfl
@[simp]theorem axD(x:UInt32):norm (fo x)=fo x:=rfl
@[simp]theorem axE(t:List (Option Nat))(x:UInt32):aT t (fo x)=(fo x,t):=rfl
@[simp]theorem axF(x:UInt64):bu (ov x)=true:=rfl
@[simp]theorem axG(x:UInt64):bD (ov x)=ov x:=rfl
@[simp]theorem axH(t:List (Option Nat))(x:UInt64):a9 t (ov x)=(ov x,t):=rfl
@[simp]theorem axI(x:UInt64):aw (ov x)=true:=rfl
@[simp]theorem axJ(S:St)(x:UInt64):bN S (ov x)=some (ov x):=rfl
@[simp]theorem axK(S:St)(x:UInt64):cg S (ov x)=S:=rfl
@[simp]theorem axL(S S':St)(x:UInt64):bB S S' (ov x)=S':=rfl
@[simp]theorem axM(x:UInt64):norm (ov x)=ov x:=rfl
@[simp]theorem axN(t:List (Option Nat))(x:UInt64):aT t (ov x)=(ov x,t):=rfl
theorem bvo(n m:Nat):(BitVec.ofInt n (m:Int)).toNat=m %2^n:=by rw[BitVec.ofInt_natCast,BitVec.toNat_ofNat]
theorem aej(n:Nat):IntKind.wrap .u32 (n:Int)=((n %4294967296:Nat):Int):=by show(n:Int)%4294967296=_;omega
theorem Wt(n:Nat):IntKind.wrap .u64 (n:Int)=((n %18446744073709551616:Nat):Int):=by show(n:Int)%18446744073709551616=_;omega
theorem sQ(x:UInt32):x.toNat<4294967296:=x.toNat_lt
theorem Cj(x:UInt64):x.toNat<18446744073709551616:=x.toNat_lt
@[simp high]theorem avz(x y:UInt32):bS .add (fo x) (fo y)=some (fo (x+y)):=by show some (AV.int .u32 (IntKind.wrap .u32 ((x.toNat:Int)+(y.toNat:Int))))=some (.int .u32 (((x+y).toNat:Nat):Int));rw[<-Int.natCast_add,aej,UInt32.toNat_add]
@[simp high]theorem avA(x y:UInt64):bS .add (ov x) (ov y)=some (ov (x+y)):=by show some (AV.int .u64 (IntKind.wrap .u64 ((x.toNat:Int)+(y.toNat:Int))))=some (.int .u64 (((x+y).toNat:Nat):Int));rw[<-Int.natCast_add,Wt,UInt64.toNat_add]
@[simp high]theorem avB(x y:UInt32):bS .and (fo x) (fo y)=some (fo (x&&&y)):=by show some (AV.int .u32 (IntKind.wrap .u32 ((BitVec.ofInt 32 (x.toNat:Int)&&&BitVec.ofInt 32 (y.toNat:Int)).toNat:Int)))=some (.int .u32 (((x&&&y).toNat:Nat):Int));have:=sQ (x&&&y);rw[UInt32.toNat_and]at this;rw[YL,bvo,bvo,jG (sQ x),jG (sQ y),aej,UInt32.toNat_and,jG this]
@[simp high]theorem avC(x y:UInt64):bS .and (ov x) (ov y)=some (ov (x&&&y)):=by show some (AV.int .u64 (IntKind.wrap .u64 ((BitVec.ofInt 64 (x.toNat:Int)&&&BitVec.ofInt 64 (y.toNat:Int)).toNat:Int)))=some (.int .u64 (((x&&&y).toNat:Nat):Int));have:=Cj (x&&&y);rw[UInt64.toNat_and]at this;rw[YL,bvo,bvo,jG (Cj x),jG (Cj y),Wt,UInt64.toNat_and,jG this]
@[simp high]theorem axO(x y:UInt32):bS .or (fo x) (fo y)=some (fo (x|||y)):=by show some (AV.int .u32 (IntKind.wrap .u32 ((BitVec.ofInt 32 (x.toNat:Int)|||BitVec.ofInt 32 (y.toNat:Int)).toNat:Int)))=some (.int .u32 (((x|||y).toNat:Nat):Int));have:=sQ (x|||y);rw[UInt32.toNat_or]at this;rw[YM,bvo,bvo,jG (sQ x),jG (sQ y),aej,UInt32.toNat_or,jG this]
@[simp high]theorem axP(x y:UInt64):bS .or (ov x) (ov y)=some (ov (x|||y)):=by show some (AV.int .u64 (IntKind.wrap .u64 ((BitVec.ofInt 64 (x.toNat:Int)|||BitVec.ofInt 64 (y.toNat:Int)).toNat:Int)))=some (.int .u64 (((x|||y).toNat:Nat):Int));have:=Cj (x|||y);rw[UInt64.toNat_or]at this;rw[YM,bvo,bvo,jG (Cj x),jG (Cj y),Wt,UInt64.toNat_or,jG this]
@[simp high]theorem avD(x y:UInt32):bS .xor (fo x) (fo y)=some (fo (x^^^y)):=by show some (AV.int .u32 (IntKind.wrap .u32 ((BitVec.ofInt 32 (x.toNat:Int)^^^BitVec.ofInt 32 (y.toNat:Int)).toNat:Int)))=some (.int .u32 (((x^^^y).toNat:Nat):Int));have:=sQ (x^^^y);rw[UInt32.toNat_xor]at this;rw[BitVec.toNat_xor,bvo,bvo,jG (sQ x),jG (sQ y),aej,UInt32.toNat_xor,jG this]
@[simp high]theorem avE(x y:UInt64):bS .xor (ov x) (ov y)=some (ov (x^^^y)):=by show some (AV.int .u64 (IntKind.wrap .u64 ((BitVec.ofInt 64 (x.toNat:Int)^^^BitVec.ofInt 64 (y.toNat:Int)).toNat:Int)))=some (.int .u64 (((x^^^y).toNat:Nat):Int));have:=Cj (x^^^y);rw[UInt64.toNat_xor]at this;rw[BitVec.toNat_xor,bvo,bvo,jG (Cj x),jG (Cj y),Wt,UInt64.toNat_xor,jG this]
@[simp high]theorem avF(x:UInt32):bF .xor (fo x)=some (fo (~~~x)):=by
 show some (AV.int .u32 (IntKind.wrap .u32 ((BitVec.ofInt 32 (4294967295:Int)^^^BitVec.ofInt 32 (x.toNat:Int)).toNat:Int)))=some (.int .u32 (((~~~x).toNat:Nat):Int));have e:(BitVec.ofInt 32 (4294967295:Int))=BitVec.allOnes 32:=by decide
 have h:(BitVec.allOnes 32^^^BitVec.ofInt 32 (x.toNat:Int))= ~~~(BitVec.ofInt 32 (x.toNat:Int)):=BitVec.allOnes_xor;have hx:=sQ x;rw[e,h,BitVec.toNat_not,bvo,jG (sQ x),aej,UInt32.toNat_not];have:UInt32.size=4294967296:=rfl;rw[this,jG (by omega)]
theorem aek(x n:Nat)(h:x<4294967296):x>>>n<4294967296:=YJ (Nat.shiftRight_le _ _) h
theorem U6(x n:Nat):(x:Int).fdiv (2^n)=((x>>>n:Nat):Int):=by
 rw[Nat.shiftRight_eq_div_pow];have:(2:Int)^n=((2^n:Nat):Int):=by simp
 rw[this];exact(Int.ofNat_fdiv x (2^n)).symm
theorem ZR(x:UInt32)(n:Nat)(h:n<=32)(k:IntKind):bS .shr (fo x) (.int k (n:Int))=some (fo (tu x n)):=by show(if(n:Int)<0 then none else some (AV.int .u32 ((x.toNat:Int).fdiv (2^(min (n:Int).toNat 32)))))=some (.int .u32 (((tu x n).toNat:Nat):Int));rw[if_neg (by omega),CM,LR h,U6];unfold tu;rw[M3,jG (aek _ _ (sQ x))]
@[simp high]theorem auo(x:UInt32):bS .shr (fo x) (.int .u64 3)=some (fo (tu x 3)):=ZR x 3 (by omega) .u64
@[simp high]theorem arH(x:UInt32):bS .shr (fo x) (.int .u64 10)=some (fo (tu x 10)):=ZR x 10 (by omega) .u64
theorem amm(x:UInt32)(n:Nat)(h:n<=32)(k:IntKind):bS .shl (fo x) (.int k (n:Int))=some (fo (UInt32.ofNat (x.toNat<<<n))):=by
 show(if(n:Int)<0 then none else some (AV.int .u32 (IntKind.wrap .u32 ((x.toNat:Int)*2^(min (n:Int).toNat 32)))))=some (.int .u32 (((UInt32.ofNat (x.toNat<<<n)).toNat:Nat):Int));have e:((x.toNat:Int)*2^n)=((x.toNat<<<n:Nat):Int):=by rw[TB];simp
 rw[if_neg (by omega),CM,LR h,e,aej,M3]
theorem amn(x:UInt32)(n:Nat):UInt32.ofNat (x.toNat<<<(32 -n))|||tu x n=j9 x n:=by apply UInt32.toNat_inj.1;unfold j9 tu;rw[UInt32.toNat_or,M3,M3,M3,adE,Nat.or_comm]
theorem Ky(x:UInt32)(n:Nat)(h1:1<=n)(h2:n<32)(S:St):DF ax nk 191 [fo x,.int .i64 (-(n:Int))] S=some (fo (j9 x n),S):=by
 have wn:IntKind.wrap .u64 (-(n:Int))=((18446744073709551616 -n:Nat):Int):=by show(-(n:Int))%18446744073709551616=_;omega
 have an:IntKind.wrap .u64 ((BitVec.ofInt 64 ((18446744073709551616 -n:Nat):Int)&&&BitVec.ofInt 64 (31:Int)).toNat:Int)=((32 -n:Nat):Int):=by have e31:BitVec.ofInt 64 (31:Int)=BitVec.ofInt 64 ((31:Nat):Int):=rfl;rw[e31,YL,bvo,bvo,jG (by omega),jG (by omega:31<2^64),show(31:Nat)=2^5 -1 from rfl,Nat.and_two_pow_sub_one_eq_mod,Wt];omega
 have sn:IntKind.wrap .u64 (32 -((32 -n:Nat):Int))=(n:Int):=by show(32 -((32 -n:Nat):Int))%18446744073709551616=_;omega
 have b1:bS .and (.int .u64 ((18446744073709551616 -n:Nat):Int)) (.int .u64 31)=some (.int .u64 ((32 -n:Nat):Int)):=congrArg (fun z=>some (AV.int .u64 z)) an;have b2:bS .sub (.int .u64 32) (.int .u64 ((32 -n:Nat):Int))=some (.int .u64 (n:Int)):=congrArg (fun z=>some (AV.int .u64 z)) sn;have b3:=amm x (32 -n) (by omega) .u64;have b4:=ZR x n (by omega) .u64;have cv:Hr .u64 (.int .i64 (-(n:Int)))=some (.int .u64 ((18446744073709551616 -n:Nat):Int)):=congrArg (fun z=>some (AV.int .u64 z)) wn;rw[AK,ak mj.eq_1];generalize((18446744073709551616 -n:Nat):Int)=A at*;generalize hB:((32 -n:Nat):Int)=B at*;simp[-bS, -Hr,cv,b1,b2,b3,b4,amn]
theorem iY(x:UInt32)(n:Nat)(h1:1<=n)(h2:n<32)(S:St):DF ax nk 164 [fo x,.int .i64 (n:Int)] S=some (fo (j9 x n),S):=by
 have c1:=Ky x n h1 h2 S;have ng:bF .neg (.int .i64 (n:Int))=some (.int .i64 (-(n:Int))):=by show some (AV.int .i64 (IntKind.wrap .i64 (0 -(n:Int))))=_;rw[wrap64 (by omega),Int.zero_sub]
 rw[Rs,ak Cc.eq_1];simp[ng,c1]
theorem amo(n:Nat)(c:UInt8):(n<<<8)|||c.toNat=n*256+c.toNat:=by have hc:c.toNat<2^8:=c.toNat_lt;rw[<-Nat.shiftLeft_add_eq_or_of_lt hc,TB]
theorem afx(n:Nat)(h:n<16777216):bS .shl (.int .u64 (n:Int)) (.int .u64 8)=some (.int .u64 ((n*256:Nat):Int)):=by
 have hl:n*256<18446744073709551616:=by omega
 show(if(8:Int)<0 then none else some (AV.int .u64 (IntKind.wrap .u64 ((n:Int)*2^(min (8:Int).toNat 64)))))=_;have e:min (8:Int).toNat 64=8:=by decide
 have:(n:Int)*2^8=((n*256:Nat):Int):=by rw[Int.natCast_mul];rfl
 rw[if_neg (by decide),e,this,Wt,jG hl]
theorem aj0(n:Nat)(y:UInt8)(h:n<16777216):bS .or (.int .u64 ((n*256:Nat):Int)) (.int .u64 (y.toNat:Int))=some (.int .u64 ((n*256+y.toNat:Nat):Int)):=by
 have yl:y.toNat<256:=y.toNat_lt;have h3:n*256+y.toNat<18446744073709551616:=by omega
 have Yt:n*256<18446744073709551616:=YJ (Nat.le_add_right _ _) h3;have h2':y.toNat<18446744073709551616:=YJ (Nat.le_add_left _ _) h3;have h1:n*256<2^64:=Yt;have h2:y.toNat<2^64:=h2';have h4:n*256|||y.toNat=n*256+y.toNat:=by have:=amo n y;rwa [TB]at this
 show some (AV.int .u64 (IntKind.wrap .u64 ((BitVec.ofInt 64 ((n*256:Nat):Int)|||BitVec.ofInt 64 (y.toNat:Int)).toNat:Int)))=_;rw[YM,bvo,bvo,jG h1,jG h2,Wt,h4,jG h3]
theorem aj1(y:UInt8):Hr .u64 (.int .u8 (y.toNat:Int))=some (.int .u64 (y.toNat:Int)):=by have yl:y.toNat<256:=y.toNat_lt;show some (AV.int .u64 (IntKind.wrap .u64 (y.toNat:Int)))=_;rw[Wt,jG (by omega)]
theorem Ry(r:jQ)(b:bq)(hb:b.length<=4)(nb:Nat)(S:St):∀d i n,i+d=b.length->n<256^i->
 DC ax nk (.loop jW) ⟨[(3,.int .u64 (n:Nat)),(6,.sl r 1 (J6 b)),(7,.int .i64 (b.length:Int)),(8,.int .i64 (i:Nat))],[],nb⟩ S=
  some (.exit 0,⟨[(3,.int .u64 ((beN n (b.drop i):Nat):Int))],[],nb⟩,S):=by
 intro d;induction d with
 |zero=>
  intro i n hi hn;have h3:b.drop i=[]:=dV (by omega);have h5:¬i<b.length:=by omega
  rw[aj,ak jW.eq_1,h3];simp[h5,beN]
 |succ d ih=>
  intro i n hi hn;have h3:i<b.length:=by omega
  obtain⟨y,hy,gg⟩:=aE (l:=b) (i:=i) (by omega);have hw:=aV (i:=i) (by omega);have yl:y.toNat<256:=y.toNat_lt;have i4:i<4:=by omega
  have p4:(256:Nat)^i<=256^3:=Xk (by omega) (by omega);have nb:n<16777216:=Bg hn p4;have JG:n*256+y.toNat<256^(i+1):=by rw[Fv];clear ih hi nb p4;omega
  have b1:=afx n nb;have b2:=aj0 n y nb;have cv:=aj1 y;have n1:=ih (i+1) (n*256+y.toNat) (by omega) JG;rw[aj,ak jW.eq_1,aJ hy,beN];obtain⟨A,hA⟩:∃A:Int,A=((n*256+y.toNat:Nat):Int):=⟨_,rfl⟩;obtain⟨B,hB⟩:∃B:Int,B=((n*256:Nat):Int):=⟨_,rfl⟩;rw[<-hA]at n1 b2;rw[<-hB]at b1 b2;clear hA hB JG hn p4 nb;simp at n1 hw;have aI:∀a b,bS .add (.int .i64 a) (.int .i64 b)=some (.int .i64 (IntKind.wrap .i64 (a+b))):=fun _ _=>rfl;have lI:∀a b,bS .lss (.int .i64 a) (.int .i64 b)=some (.bool (decide (a<b))):=fun _ _=>rfl;simp[h3,gg,gy, -bS, -Hr,b1,b2,cv,aI,lI,hw];rw[ae jW.eq_1];simp[n1, -bS]
theorem Rz(r:jQ)(b:bq)(hb:b.length<=4)(S:St):DF ax nk 163 [.sl r 1 (J6 b)] S=some (.int .u64 ((beN 0 b:Nat):Int),S):=by have h:=Ry r b hb S.length S b.length 0 0 (by omega) (by simp);rw[NN,ak xV.eq_1];simp at h;simp;rw[ae jW.eq_1];simp[h]
@[simp]theorem Sl(b:bq)(i:Nat):(uL b i).length=i:=by
 induction i with
 |zero=>rfl
 |succ i ih=>simp[uL,ih]
theorem mc{l:List UInt32}{j:Nat}(h:j<l.length):l[j]? =some (l.getD j 0):=by rw[tE,Ct h];rfl
def A_(b:bq)(i:Nat):List AV:=(uL b i).map fo++List.replicate (64 -i) (fo 0)
theorem aj3(b:bq){i:Nat}(h:i<=64):(A_ b i).length=64:=by simp[A_];omega
theorem N4(b:bq){i j:Nat}(h:j<i):(A_ b i)[j]? =some (fo ((uL b i).getD j 0)):=by unfold A_;rw[kP (by simpa using h),gx,mc (by simpa using h)];rfl
theorem ack(b:bq){i:Nat}(h:i<64)(x:UInt32)(hx:x=if i<16 then xr b i else ZS (uL b i) i):aL (A_ b i) i [fo x]=A_ b (i+1):=by
 have e:64 -i=(64 -(i+1))+1:=by omega
 have:=iJ (l:=A_ b i) (off:=i) (b':=[fo x]) (a:=(uL b i).map fo) (b:=[fo 0]) (c:=List.replicate (64 -(i+1)) (fo 0)) (by unfold A_;rw[e,acT];rfl) (by simp) rfl;rw[this,hx];unfold A_;simp[uL]
theorem aen:∀(b:bq)(n k:Nat),n<256^k->beN n b<256^(k+b.length)
 |[],n,k,h=>by simpa[beN]using h
 |c::r,n,k,h=>by
  have hc:c.toNat<256:=c.toNat_lt;have h1:n*256+c.toNat<256^(k+1):=by rw[Fv];omega
  have:=aen r (n*256+c.toNat) (k+1) h1;rw[beN];rwa [jC,Nat.add_comm r.length 1,<-pv]
def stM(S:St)(s z w:List AV):St:=S++[.mem s [] false,.mem z [] false,.mem w [] false]
theorem acm(S:St)(s z w:List AV):(stM S s z w)[S.length+2]? =some (.mem w [] false):=get_at S _ 2
theorem aj4(S:St)(s z w w':List AV):(stM S s z w).set (S.length+2) (.mem w' [] false)=stM S s z w':=qW S _ 2 _
theorem Sm{S:St}{s z w:List AV}{j:Nat}{v:AV}(h:w[j]? =some v):aY (stM S s z w) .cell (.ptr (S.length+2) j)=some v:=by rw[bd (acm S s z w),pC,h]
theorem afC{S:St}{s z w:List AV}{j:Nat}{x:UInt32}(h:j+1<=w.length)(aa:List (Option Nat)):bg aa S.length (stM S s z w) 1 (.ptr (S.length+2) j) (fo x)=some (aa,stM S s z (aL w j [fo x])):=by rw[fT (ab_ x).Xo (acm ..),aj4,if_pos ⟨rfl,h⟩];rfl
theorem Ck(n m i:Nat)(h:i<n)(k:IntKind):CE n 1 (.ptr m 0) (.int k (i:Int))=some (.ptr m i):=by unfold CE;simp[h]
theorem acd(i c:Nat)(h:c<=i)(h2:i<1000):bS .sub (.int .i64 (i:Int)) (.int .i64 (c:Int))=some (.int .i64 ((i -c:Nat):Int)):=by show some (AV.int .i64 (IntKind.wrap .i64 ((i:Int) -(c:Int))))=_;rw[wrap64 (by omega)];congr 2;omega
theorem amu(b:bq)(hb:64<=b.length)(S:St)(m:Nat)(s z:List AV):∀d i,i+d=64->
 DC ax nk (.loop h_) ⟨[(1,bO b),(2,.ptr m 0),(3,.ptr S.length 0),(6,.ptr (S.length+1) 0),(7,.ptr (S.length+2) 0),(18,.int .i64 (i:Nat))],[],S.length⟩ (stM S s z (A_ b i))=
  some (.exit 0,⟨[(2,.ptr m 0),(3,.ptr S.length 0),(6,.ptr (S.length+1) 0),(7,.ptr (S.length+2) 0)],[],S.length⟩,stM S s z (A_ b 64)):=by
 have aI:∀a b,bS .add (.int .i64 a) (.int .i64 b)=some (.int .i64 (IntKind.wrap .i64 (a+b))):=fun _ _=>rfl;have lI:∀a b,bS .lss (.int .i64 a) (.int .i64 b)=some (.bool (decide (a<b))):=fun _ _=>rfl;intro d;induction d with
 |zero=>
  intro i hi;have e:i=64:=by omega
  subst e;rw[aj,ak h_.eq_1];simp
 |succ d ih=>
  intro i hi;have h3:i<64:=by omega
  have h3':(i:Int)<64:=by omega
  have hw:=aV (i:=i) (by omega);have n1:=ih (i+1) (by omega);have ixi:=Ck 64 (S.length+2) i h3 .i64;have hlen:=aj3 b (i:=i) (by omega);by_cases h16:i<16
  ·have aem:(i:Int)<16:=by omega
   have m1:bS .mul (.int .i64 4) (.int .i64 (i:Int))=some (.int .i64 ((4*i:Nat):Int)):=by show some (AV.int .i64 (IntKind.wrap .i64 (4*(i:Int))))=_;rw[wrap64 (by omega)];congr 2
   have a1:IntKind.wrap .i64 (((4*i:Nat):Int)+4)=((4*i+4:Nat):Int):=by rw[wrap64 (by omega)];omega
   have ql:((b.take (4*i+4)).drop (4*i)).length=4:=by simp;omega
   have sl:=Pw b (4*i) (4*i+4) (by omega) (by omega);obtain⟨q,hq⟩:∃q,q=(b.take (4*i+4)).drop (4*i):=⟨_,rfl⟩;have wq:xr b i=UInt32.ofNat (beN 0 q):=by rw[hq];rfl
   rw[<-hq]at sl ql;have e1:bO q=.sl .none 1 (J6 q):=by
    cases q with
    |nil=>simp at ql
    |cons a r=>rfl
   have cn:=Rz .none q (by omega) (stM S s z (A_ b i));rw[<-e1]at cn;have bl:=aen q 0 0 (by simp);rw[ql]at bl;have cv:Hr .u32 (.int .u64 ((beN 0 q:Nat):Int))=some (fo (xr b i)):=by show some (AV.int .u32 (IntKind.wrap .u32 ((beN 0 q:Nat):Int)))=some (AV.int .u32 (((xr b i).toNat:Nat):Int));rw[aej,wq,M3]
   have st:=afC (S:=S) (s:=s) (z:=z) (w:=A_ b i) (j:=i) (x:=xr b i) (by omega) [];rw[ack b h3 (xr b i) (by rw[if_pos h16])]at st;obtain⟨A,hA⟩:∃A:Int,A=((4*i:Nat):Int):=⟨_,rfl⟩;obtain⟨B,hB⟩:∃B:Int,B=((4*i+4:Nat):Int):=⟨_,rfl⟩;rw[<-hA]at m1 a1 sl;rw[<-hB]at a1 sl;rw[aj,ak h_.eq_1];simp at n1 hw;simp[h3',aem, -bS, -Hr, -CE,aI,lI,m1,a1,sl,cn,cv,ixi,st];rw[ae h_.eq_1];simp[hw,n1, -bS]
  ·have aem:¬(i:Int)<16:=by omega
   have s15:bS .sub (.int .i64 (i:Int)) (.int .i64 15)=_:=acd i 15 (by omega) (by omega);have s2:bS .sub (.int .i64 (i:Int)) (.int .i64 2)=_:=acd i 2 (by omega) (by omega);have s16:bS .sub (.int .i64 (i:Int)) (.int .i64 16)=_:=acd i 16 (by omega) (by omega);have s7:bS .sub (.int .i64 (i:Int)) (.int .i64 7)=_:=acd i 7 (by omega) (by omega);have x15:=Ck 64 (S.length+2) (i -15) (by omega) .i64;have x2:=Ck 64 (S.length+2) (i -2) (by omega) .i64;have x16:=Ck 64 (S.length+2) (i -16) (by omega) .i64;have x7:=Ck 64 (S.length+2) (i -7) (by omega) .i64;have l15:=Sm (S:=S) (s:=s) (z:=z) (N4 b (i:=i) (j:=i -15) (by omega));have l2:=Sm (S:=S) (s:=s) (z:=z) (N4 b (i:=i) (j:=i -2) (by omega));have l16:=Sm (S:=S) (s:=s) (z:=z) (N4 b (i:=i) (j:=i -16) (by omega));have l7:=Sm (S:=S) (s:=s) (z:=z) (N4 b (i:=i) (j:=i -7) (by omega));have st:=fun x(h:True)=>afC (S:=S) (s:=s) (z:=z) (w:=A_ b i) (j:=i) (x:=x) (by omega) [];have st:=st (ZS (uL b i) i) trivial;rw[ack b h3 (ZS (uL b i) i) (by rw[if_neg h16])]at st;unfold ZS at st;generalize hx:(uL b i).getD (i -15) 0=x at*;generalize hy:(uL b i).getD (i -2) 0=y at*;generalize hx6:(uL b i).getD (i -16) 0=xg at*;generalize hx7:(uL b i).getD (i -7) 0=xh at*;have t7:DF ax nk 164 [fo x,.int .i64 7] (stM S s z (A_ b i))=_:=iY x 7 (by omega) (by omega) _;have t18:DF ax nk 164 [fo x,.int .i64 18] (stM S s z (A_ b i))=_:=iY x 18 (by omega) (by omega) _;have t17:DF ax nk 164 [fo y,.int .i64 17] (stM S s z (A_ b i))=_:=iY y 17 (by omega) (by omega) _;have t19:DF ax nk 164 [fo y,.int .i64 19] (stM S s z (A_ b i))=_:=iY y 19 (by omega) (by omega) _;obtain⟨A15,aqc⟩:∃A:Int,A=((i -15:Nat):Int):=⟨_,rfl⟩;obtain⟨A2,hA2⟩:∃A:Int,A=((i -2:Nat):Int):=⟨_,rfl⟩;obtain⟨A16,aqd⟩:∃A:Int,A=((i -16:Nat):Int):=⟨_,rfl⟩;obtain⟨A7,hA7⟩:∃A:Int,A=((i -7:Nat):Int):=⟨_,rfl⟩;rw[<-aqc]at s15 x15;rw[<-hA2]at s2 x2;rw[<-aqd]at s16 x16;rw[<-hA7]at s7 x7;rw[aj,ak h_.eq_1];simp at n1 hw;simp[h3',aem, -bS, -Hr, -CE,aI,lI,s15,s2,s16,s7,x15,x2,x16,x7,l15,l2,l16,l7,t7,t18,t17,t19,ixi,st];rw[ae h_.eq_1];simp[hw,n1, -bS]
def V8.ai(v:V8):List AV:=[fo v.a,fo v.b,fo v.c,fo v.d,fo v.e,fo v.f,fo v.g,fo v.h]
@[simp]theorem V8.len(v:V8):v.ai.length=8:=rfl
@[simp]theorem V8.fJ(v:V8):j1 v.ai:=by simp[V8.ai]
def JS(S:St)(s z w v:List AV):St:=S++[.mem s [] false,.mem z [] false,.mem w [] false,.mem v [] false]
theorem aj7(S:St)(s z w v:List AV):(JS S s z w v)[S.length+2]? =some (.mem w [] false):=get_at S _ 2
theorem Vb(S:St)(s z w v:List AV):(JS S s z w v)[S.length+3]? =some (.mem v [] false):=get_at S _ 3
theorem aco(S:St)(s z w v v':List AV):(JS S s z w v).set (S.length+3) (.mem v' [] false)=JS S s z w v':=qW S _ 3 _
theorem Vc(S:St)(s z w v:List AV):(JS S s z w v)[S.length]? =some (.mem s [] false):=by have:=get_at S [.mem s [] false,.mem z [] false,.mem w [] false,.mem v [] false] 0;rw[sR]at this;exact this
theorem aj8(S:St)(s s' z w v:List AV):(JS S s z w v).set S.length (.mem s' [] false)=JS S s' z w v:=by have:=qW S [.mem s [] false,.mem z [] false,.mem w [] false,.mem v [] false] 0 (.mem s' [] false);rw[sR]at this;exact this
theorem aj9(S:St)(s z z' w v:List AV):(JS S s z w v).set (S.length+1) (.mem z' [] false)=JS S s z' w v:=qW S _ 1 _
theorem acp(S:St)(s z w v:List AV):(JS S s z w v)[S.length+1]? =some (.mem z [] false):=get_at S _ 1
theorem aj_(S:St)(s z w v:List AV):(JS S s z w v).take S.length=S:=Fu rfl
theorem aql(cs:List AV)(off:Nat)(x:UInt32)(r:List (Nat × Nat × AV))(h:off+1<=cs.length):dr cs ((off,1,fo x)::r)=dr (aL cs off [fo x]) r:=by rw[dr,if_pos ⟨rfl,rfl,h⟩];rfl
theorem anK(a b c d e f g h:UInt32):dr cQ [(0,1,fo a),(1,1,fo b),(2,1,fo c),(3,1,fo d),(4,1,fo e),(5,1,fo f),(6,1,fo g),(7,1,fo h)]=some [fo a,fo b,fo c,fo d,fo e,fo f,fo g,fo h]:=by simp[aql,aL];rfl
set_option maxHeartbeats 1000000 in
theorem amv(S:St)(m:Nat)(ks ws:List UInt32)(hk:ks.length=64)(hws:ws.length=64)(bt:List (Option Nat))(q:Bool)(hm:S[m]? =some (.mem (ks.map fo) bt q))(s z:List AV)(v:V8):∀d i,i+d=64->
 DC ax nk (.loop jU) ⟨[(2,.ptr m 0),(3,.ptr S.length 0),(6,.ptr (S.length+1) 0),(7,.ptr (S.length+2) 0),(11,.ptr (S.length+3) 0),(73,.int .i64 (i:Nat))],[],S.length⟩ (JS S s z (ws.map fo) (v.rounds ks ws i).ai)=
  some (.exit 2,⟨[(3,.ptr S.length 0),(6,.ptr (S.length+1) 0),(11,.ptr (S.length+3) 0)],[],S.length⟩,JS S s z (ws.map fo) (v.rounds ks ws 64).ai):=by
 have aI:∀a b,bS .add (.int .i64 a) (.int .i64 b)=some (.int .i64 (IntKind.wrap .i64 (a+b))):=fun _ _=>rfl;have lI:∀a b,bS .lss (.int .i64 a) (.int .i64 b)=some (.bool (decide (a<b))):=fun _ _=>rfl;intro d;induction d with
 |zero=>
  intro i hi;have e:i=64:=by omega
  subst e;rw[aj,ak jU.eq_1];simp
 |succ d ih=>
  intro i hi;have h3:i<64:=by omega
  have h3':(i:Int)<64:=by omega
  have hw:=aV (i:=i) (by omega);have n1:=ih (i+1) (by omega);have er:v.rounds ks ws (i+1)=(v.rounds ks ws i).round (ks.getD i 0) (ws.getD i 0):=rfl;rw[er]at n1;generalize v.rounds ks ws i=V at*;generalize JS S s z (ws.map fo) (v.rounds ks ws 64).ai=R at*;generalize hT:JS S s z (ws.map fo) V.ai=T at*;have ixk:=Ck 64 m i h3 .i64;have ixw:=Ck 64 (S.length+2) i h3 .i64;have lk:aY T .cell (.ptr m i)=some (fo (ks.getD i 0)):=by
   have:T[m]? =some (.mem (ks.map fo) bt q):=by rw[<-hT];exact cd _ hm
   rw[bd this,pC,gx,mc (by omega)];rfl
  have lw:aY T .cell (.ptr (S.length+2) i)=some (fo (ws.getD i 0)):=by
   have:T[S.length+2]? =some (.mem (ws.map fo) [] false):=by rw[<-hT];exact aj7 ..
   rw[bd this,pC,gx,mc (by omega)];rfl
  generalize ks.getD i 0=k at*;generalize ws.getD i 0=w at*;have gv:T[S.length+3]? =some (.mem V.ai [] false):=by rw[<-hT];exact Vb ..
  have lv0:aY T .cell (.ptr (S.length+3) 0)=some (fo V.a):=by rw[bd gv];rfl
  have lv1:aY T .cell (.ptr (S.length+3) 1)=some (fo V.b):=by rw[bd gv];rfl
  have lv2:aY T .cell (.ptr (S.length+3) 2)=some (fo V.c):=by rw[bd gv];rfl
  have lv3:aY T .cell (.ptr (S.length+3) 3)=some (fo V.d):=by rw[bd gv];rfl
  have lv4:aY T .cell (.ptr (S.length+3) 4)=some (fo V.e):=by rw[bd gv];rfl
  have lv5:aY T .cell (.ptr (S.length+3) 5)=some (fo V.f):=by rw[bd gv];rfl
  have lv6:aY T .cell (.ptr (S.length+3) 6)=some (fo V.g):=by rw[bd gv];rfl
  have lv7:aY T .cell (.ptr (S.length+3) 7)=some (fo V.h):=by rw[bd gv];rfl
  have ix8:∀j:Nat,j<8->CE 8 1 (.ptr (S.length+3) 0) (.int .i64 (j:Int))=some (.ptr (S.length+3) j):=fun j hj=>Ck 8 (S.length+3) j hj .i64;have x0:CE 8 1 (.ptr (S.length+3) 0) (.int .i64 0)=some (.ptr (S.length+3) 0):=ix8 0 (by omega);have x1:CE 8 1 (.ptr (S.length+3) 0) (.int .i64 1)=some (.ptr (S.length+3) 1):=ix8 1 (by omega);have x2:CE 8 1 (.ptr (S.length+3) 0) (.int .i64 2)=some (.ptr (S.length+3) 2):=ix8 2 (by omega);have x3:CE 8 1 (.ptr (S.length+3) 0) (.int .i64 3)=some (.ptr (S.length+3) 3):=ix8 3 (by omega);have x4:CE 8 1 (.ptr (S.length+3) 0) (.int .i64 4)=some (.ptr (S.length+3) 4):=ix8 4 (by omega);have x5:CE 8 1 (.ptr (S.length+3) 0) (.int .i64 5)=some (.ptr (S.length+3) 5):=ix8 5 (by omega);have x6:CE 8 1 (.ptr (S.length+3) 0) (.int .i64 6)=some (.ptr (S.length+3) 6):=ix8 6 (by omega);have x7:CE 8 1 (.ptr (S.length+3) 0) (.int .i64 7)=some (.ptr (S.length+3) 7):=ix8 7 (by omega);have e6:DF ax nk 164 [fo V.e,.int .i64 6] T=_:=iY V.e 6 (by omega) (by omega) T;have e11:DF ax nk 164 [fo V.e,.int .i64 11] T=_:=iY V.e 11 (by omega) (by omega) T;have e25:DF ax nk 164 [fo V.e,.int .i64 25] T=_:=iY V.e 25 (by omega) (by omega) T;have a2:DF ax nk 164 [fo V.a,.int .i64 2] T=_:=iY V.a 2 (by omega) (by omega) T;have a13:DF ax nk 164 [fo V.a,.int .i64 13] T=_:=iY V.a 13 (by omega) (by omega) T;have a22:DF ax nk 164 [fo V.a,.int .i64 22] T=_:=iY V.a 22 (by omega) (by omega) T;have st:∀V':V8,bg [] S.length T 8 (.ptr (S.length+3) 0) (.agg V'.ai)=some ([],JS S s z (ws.map fo) V'.ai):=fun V'=>by rw[fT (jE V'.fJ) gv,if_pos ⟨rfl,by simp⟩,<-hT,aco];rw[show(AV.agg V'.ai).cells=V'.ai from rfl,bX (by simp)]
  have fw:=anK (V.t k w+V.u) V.a V.b V.c (V.d+V.t k w) V.e V.f V.g;have st:=st (V.round k w);unfold V8.ai at st n1;unfold V8.round at st n1;unfold V8.t V8.u at st fw n1;rw[aj,ak jU.eq_1];simp at n1 hw;simp[h3', -bS, -CE,aI,lI,x0,x1,x2,x3,x4,x5,x6,x7,lv0,lv1,lv2,lv3,lv4,lv5,lv6,lv7,e6,e11,e25,a2,a13,a22,ixk,ixw,lk,lw,fw,st];rw[ae jU.eq_1];simp[hw,n1, -bS]
abbrev d32(x:UInt32):AV:=ov x.toUInt64
theorem acw(x:UInt32):x.toUInt64.toNat=x.toNat:=UInt32.toNat_toUInt64 x
def m9:List AV:=[.int .i64 32,.sl .none 1 (ft.l.map fun x=>[d32 x]),.sl .none 1 (f_.map fun x=>[d32 x]),.int .i64 2,.int .i64 13,.int .i64 22,.int .i64 6,.int .i64 11,.int .i64 25,.int .i64 7,.int .i64 18,.int .i64 3,.int .i64 17,.int .i64 19,.int .i64 10,.int .i64 8,ov 4294967295]
theorem PN(l:List UInt32):∀c∈l.map (fun x=>[d32 x]),j1 c:=by intro c hc;obtain⟨x,_,rfl⟩:=Fq.1 hc;show j1 [ov _];simp
theorem Mo(l:List UInt32):ct (l.map fun x=>[d32 x])=true:=jJ.2 fun x hx=>(PN l x hx).aS
theorem afD(x:UInt64)(n:Nat)(h:n<=64)(k:IntKind):bS .shr (ov x) (.int k (n:Int))=some (ov (UInt64.ofNat (x.toNat>>>n))):=by show(if(n:Int)<0 then none else some (AV.int .u64 ((x.toNat:Int).fdiv (2^(min (n:Int).toNat 64)))))=some (.int .u64 (((UInt64.ofNat (x.toNat>>>n)).toNat:Nat):Int));have hl:x.toNat>>>n<18446744073709551616:=YJ (Nat.shiftRight_le _ _) (Cj x);rw[if_neg (by omega),CM,LR h,U6,Tv,jG hl]
theorem amz(x:UInt64)(n:Nat)(h:n<=64)(k:IntKind):bS .shl (ov x) (.int k (n:Int))=some (ov (UInt64.ofNat (x.toNat<<<n))):=by
 show(if(n:Int)<0 then none else some (AV.int .u64 (IntKind.wrap .u64 ((x.toNat:Int)*2^(min (n:Int).toNat 64)))))=some (.int .u64 (((UInt64.ofNat (x.toNat<<<n)).toNat:Nat):Int));have e:((x.toNat:Int)*2^n)=((x.toNat<<<n:Nat):Int):=by rw[TB];simp
 rw[if_neg (by omega),CM,LR h,e,Wt,Tv]
theorem U8(x:UInt64):x&&&4294967295=x.toUInt32.toUInt64:=by apply UInt64.toNat_inj.1;rw[UInt64.toNat_and,acw,UInt64.toNat_toUInt32];exact Nat.and_two_pow_sub_one_eq_mod x.toNat 32
theorem auB(x:UInt32)(n:Nat):UInt64.ofNat (x.toUInt64.toNat>>>n)=(tu x n).toUInt64:=by apply UInt64.toNat_inj.1;have h1:=aek _ n (sQ x);have h2:x.toNat>>>n<18446744073709551616:=Nat.lt_trans h1 (by decide);rw[acw,acw];unfold tu;rw[Tv,M3,jG h1,jG h2]
theorem aqs(x:UInt32)(n:Nat):(UInt64.ofNat (x.toUInt64.toNat>>>n)|||UInt64.ofNat (x.toUInt64.toNat<<<(32 -n)))&&&4294967295=(j9 x n).toUInt64:=by rw[U8];congr 1;apply UInt32.toNat_inj.1;have h1:=aek _ n (sQ x);have h2:x.toNat>>>n<18446744073709551616:=Nat.lt_trans h1 (by decide);have hd:∀a:Nat,a %2^64 %2^32=a %2^32:=fun a=>Nat.mod_mod_of_dvd a (Nat.pow_dvd_pow 2 (by decide));unfold j9;rw[UInt64.toNat_toUInt32,UInt64.toNat_or,Tv,Tv,M3,acw,adE,hd,hd,<-adE]
theorem uz:j1 m9:=by
 have h1:=Mo ft.l;have h2:=Mo f_;have a1:wb (.sl .none 1 (ft.l.map fun x=>[d32 x])):=by have:=iZ 1 (PN ft.l);exact this
 have a2:wb (.sl .none 1 (f_.map fun x=>[d32 x])):=by have:=iZ 1 (PN f_);exact this
 unfold m9;generalize AV.sl .none 1 (ft.l.map fun x=>[d32 x])=A at*;generalize AV.sl .none 1 (f_.map fun x=>[d32 x])=B at*;simp[a1,a2]
theorem JU:m9.length=17:=rfl
theorem xu(x:UInt32)(n:Nat)(h1:1<=n)(h2:n<32)(S:St):DF ax nk 192 [.agg m9,d32 x,.int .i64 (n:Int)] S=some (d32 (j9 x n),S):=by
 have kd:=uz;have l0:aY (S++[.mem m9 [] false]) .cell (.ptr S.length 0)=some (.int .i64 32):=by rw[gQ];rfl
 have l16:aY (S++[.mem m9 [] false]) .cell (.ptr S.length 16)=some (ov 4294967295):=by rw[gQ];rfl
 have b1:=afD x.toUInt64 n (by omega) .i64;have b2:=amz x.toUInt64 (32 -n) (by omega) .i64;have sb:bS .sub (.int .i64 32) (.int .i64 (n:Int))=some (.int .i64 ((32 -n:Nat):Int)):=by show some (AV.int .i64 (IntKind.wrap .i64 (32 -(n:Int))))=_;rw[wrap64 (by omega)];congr 2;omega
 have rr:=aqs x n;rw[acw]at rr;have kl:=JU;unfold d32;rw[zD,ak kX.eq_1];generalize hB:((32 -n:Nat):Int)=B at*;generalize hK:m9=K at*;simp[-bS,kd,kl,b1,b2,sb,l0,l16,rr]
theorem QE(x:UInt32)(a b c:Nat)(ha1:1<=a)(ha:a<32)(hb1:1<=b)(hb:b<32)(hc:c<32)(S:St):DF ax nk 165 [.agg m9,d32 x,.agg [.int .i64 (a:Int),.int .i64 (b:Int),.int .i64 (c:Int)]] S=some (d32 (j9 x a^^^j9 x b^^^tu x c),S):=by
 have kd:=uz;have kl:=JU;have la:aY (S++[.mem m9 [] false,.mem [.int .i64 (a:Int),.int .i64 (b:Int),.int .i64 (c:Int)] [] false]) (.agg 17) (.ptr S.length 0)=some (.agg m9):=by rw[gQ];exact(cP _ kl).trans (by rw[kd.dN])
 have c1:=fun S=>xu x a ha1 ha S;have c2:=fun S=>xu x b hb1 hb S;have b1:=afD x.toUInt64 c (by omega) .i64;rw[auB]at b1;have hx:(j9 x a^^^j9 x b^^^tu x c).toUInt64=(j9 x a).toUInt64^^^(j9 x b).toUInt64^^^(tu x c).toUInt64:=by rw[Tw,Tw]
 unfold d32 at*;rw[zC,ak kW.eq_1];generalize hK:m9=K at*;simp[-bS,kd,kl,la,c1,c2,b1,hx]
theorem XR(x:UInt32)(a b c:Nat)(ha1:1<=a)(ha:a<32)(hb1:1<=b)(hb:b<32)(Vp:1<=c)(hc:c<32)(S:St):DF ax nk 166 [.agg m9,d32 x,.agg [.int .i64 (a:Int),.int .i64 (b:Int),.int .i64 (c:Int)]] S=some (d32 (j9 x a^^^j9 x b^^^j9 x c),S):=by
 have kd:=uz;have kl:=JU;have la:aY (S++[.mem m9 [] false,.mem [.int .i64 (a:Int),.int .i64 (b:Int),.int .i64 (c:Int)] [] false]) (.agg 17) (.ptr S.length 0)=some (.agg m9):=by rw[gQ];exact(cP _ kl).trans (by rw[kd.dN])
 have c1:=fun S=>xu x a ha1 ha S;have c2:=fun S=>xu x b hb1 hb S;have c3:=fun S=>xu x c Vp hc S;have hx:(j9 x a^^^j9 x b^^^j9 x c).toUInt64=(j9 x a).toUInt64^^^(j9 x b).toUInt64^^^(j9 x c).toUInt64:=by rw[Tw,Tw]
 unfold d32 at*;rw[A9,ak m0.eq_1];generalize hK:m9=K at*;simp[-bS,kd,kl,la,c1,c2,c3,hx]
def my(l:List UInt32):List (List AV):=l.map fun x=>[d32 x]
@[simp]theorem avG(l:List UInt32):(my l).length=l.length:=by simp[my]
theorem afy(a:List UInt32)(x:UInt32):my (a++[x])=my a++[[d32 x]]:=by simp[my]
theorem afz{l:List UInt32}{i:Nat}(h:i<l.length):(my l)[i]? =some [d32 (l.getD i 0)]:=by unfold my;rw[gx,mc h];rfl
theorem PL(l:List UInt32):ct (my l)=true:=Mo l
theorem AR{aW:AV}{aa:List (Option Nat)}{l:List UInt32}(h:g7 1 aW aa (my l))(i:Nat)(hi:i<l.length)(k:IntKind):oa 1 aW (.int k (i:Int))=some (.ec .none [d32 (l.getD i 0)] 0):=by rw[g7.ix h k i (by simpa using hi),afz hi];rfl
theorem U7(S:St):let T:=S++[cF.mem m9 [] false]
 aY T .cell (.ptr S.length 0)=some (.int .i64 32)/\aY T .cell (.ptr S.length 2)=some (.sl .none 1 (my f_))/\aY T .cell (.ptr S.length 16)=some (ov 4294967295)/\
 aY T (.agg 3) (.ptr S.length 3)=some (.agg [.int .i64 2,.int .i64 13,.int .i64 22])/\aY T (.agg 3) (.ptr S.length 6)=some (.agg [.int .i64 6,.int .i64 11,.int .i64 25])/\
 aY T (.agg 3) (.ptr S.length 9)=some (.agg [.int .i64 7,.int .i64 18,.int .i64 3])/\aY T (.agg 3) (.ptr S.length 12)=some (.agg [.int .i64 17,.int .i64 19,.int .i64 10])/\
 aY T (.agg 17) (.ptr S.length 0)=some (.agg m9):=by
 refine⟨?_, ?_, ?_, ?_, ?_, ?_, ?_, ?_⟩;·rw[gQ];rfl
 ·rw[gQ];rfl
 ·rw[gQ];rfl
 ·rw[gQ];rfl
 ·rw[gQ];rfl
 ·rw[gQ];rfl
 ·rw[gQ];rfl
 ·rw[gQ]
  exact(cP _ JU).trans (by rw[uz.dN])
theorem aI(a b:Int):bS .add (.int .i64 a) (.int .i64 b)=some (.int .i64 (IntKind.wrap .i64 (a+b))):=rfl
theorem lI(a b:Int):bS .lss (.int .i64 a) (.int .i64 b)=some (.bool (decide (a<b))):=rfl
theorem ael(m:bq)(i:Nat)(hi:4*i+4<=m.length)(hi2:i<16)(rh aW:AV)(aa:List (Option Nat))(S:St):∀d j n,j+d=4->n<256^j->
 DC ax nk (.loop eO) ⟨[(1,rh),(2,bO m),(3,.ptr S.length 0),(7,aW),(8,.int .i64 (i:Nat)),(9,.int .u64 (n:Nat)),(10,.int .i64 (j:Nat))],aa,S.length⟩ (S++[.mem m9 [] false])=
  some (.exit 2,⟨[(1,rh),(2,bO m),(3,.ptr S.length 0),(7,aW),(8,.int .i64 (i:Nat)),(9,.int .u64 ((beN n ((m.take (4*i+4)).drop (4*i+j)):Nat):Int))],aa,S.length⟩,S++[.mem m9 [] false]):=by
 obtain⟨l0, -, -, -, -, -, -, -⟩:=U7 S;have q8:bS .quo (.int .i64 32) (.int .i64 8)=some (.int .i64 4):=rfl;generalize hT:S++[cF.mem m9 [] false]=T at*;intro d;induction d with
 |zero=>
  intro j n hj hn;have e:j=4:=by omega
  subst e;have h3:(m.take (4*i+4)).drop (4*i+4)=[]:=dV (by simp;omega);rw[aj,ak eO.eq_1,h3];simp[-bS,l0,q8,lI,beN]
 |succ d ih=>
  intro j n hj hn;have h3:(j:Int)<4:=by omega
  have hw:=aV (i:=j) (by omega);obtain⟨y,hy,gg⟩:=aE (l:=m) (i:=4*i+j) (by omega);have SR:(m.take (4*i+4))[4*i+j]? =some y:=by rw[WH (by omega)];exact hy
  have p4:(256:Nat)^j<=256^3:=Xk (by omega) (by omega);have nb:n<16777216:=Bg hn p4;have yl:y.toNat<256:=y.toNat_lt;have JG:n*256+y.toNat<256^(j+1):=by rw[Fv];clear ih hi hi2 nb p4;omega
  have b1:=afx n nb;have b2:=aj0 n y nb;have cv:=aj1 y;have m1:bS .mul (.int .i64 (i:Int)) (.int .i64 32)=some (.int .i64 ((32*i:Nat):Int)):=by show some (AV.int .i64 (IntKind.wrap .i64 ((i:Int)*32)))=_;rw[wrap64 (by omega)];congr 2;omega
  have q1:bS .quo (.int .i64 ((32*i:Nat):Int)) (.int .i64 8)=some (.int .i64 ((4*i:Nat):Int)):=by show(if(8:Int)=0 then none else some (AV.int .i64 (IntKind.wrap .i64 (((32*i:Nat):Int).tdiv 8))))=_;rw[if_neg (by omega),Int.tdiv_eq_ediv_of_nonneg (by omega),wrap64 (by omega)];congr 2;omega
  have a1:IntKind.wrap .i64 (((4*i:Nat):Int)+(j:Int))=((4*i+j:Nat):Int):=by rw[wrap64 (by omega)];omega
  have ix:=Aa m .i64 (4*i+j);rw[hy]at ix;have n1:=ih (j+1) (n*256+y.toNat) (by omega) JG;rw[aj,ak eO.eq_1,aJ SR,beN];rw[show 4*i+(j+1)=4*i+j+1 from rfl]at n1;obtain⟨A,hA⟩:∃A:Int,A=((n*256+y.toNat:Nat):Int):=⟨_,rfl⟩;obtain⟨B,hB⟩:∃B:Int,B=((n*256:Nat):Int):=⟨_,rfl⟩;obtain⟨C,hC⟩:∃C:Int,C=((32*i:Nat):Int):=⟨_,rfl⟩;obtain⟨D,hD⟩:∃D:Int,D=((4*i:Nat):Int):=⟨_,rfl⟩;obtain⟨E,hE⟩:∃E:Int,E=((4*i+j:Nat):Int):=⟨_,rfl⟩;rw[<-hA]at n1 b2;rw[<-hB]at b1 b2;rw[<-hC]at m1 q1;rw[<-hD]at q1 a1;rw[<-hE]at a1 ix;generalize beN (n*256+y.toNat) (List.drop (4*i+j+1) (List.take (4*i+4) m))=R at*;clear hA hB hC hD hE JG hn p4 nb;simp at n1 hw;simp at ix;simp[h3, -bS, -Hr, -Aa,l0,q8,lI,aI,b1,b2,cv,m1,q1,a1,ix,gy];rw[ae eO.eq_1];simp[hw,n1, -bS]
theorem anG(w15 w2 w16 w7:UInt32):((j9 w2 17^^^j9 w2 19^^^tu w2 10).toUInt64+w7.toUInt64+(j9 w15 7^^^j9 w15 18^^^tu w15 3).toUInt64+w16.toUInt64)&&&4294967295=
 (w16+(j9 w15 7^^^j9 w15 18^^^tu w15 3)+w7+(j9 w2 17^^^j9 w2 19^^^tu w2 10)).toUInt64:=by
 rw[U8];congr 1;simp only[Xl,Xi];ac_rfl
theorem agY(m:bq)(hm:64<=m.length)(rh:AV)(S:St):∀d i(aW:AV)(aa:List (Option Nat)),i+d=64->g7 1 aW aa (my (uL m i))->
 ∃dH aG,g7 1 dH aG (my (uL m 64))/\DC ax nk (.loop dg) ⟨[(1,rh),(2,bO m),(3,.ptr S.length 0),(7,aW),(8,.int .i64 (i:Nat))],aa,S.length⟩ (S++[.mem m9 [] false])=
  some (.exit 0,⟨[(1,rh),(3,.ptr S.length 0),(7,dH)],aG,S.length⟩,S++[.mem m9 [] false]):=by
 obtain⟨l0,l2,l16,l3,l6,l9,l12,lA⟩:=U7 S;have lk:gj (.sl .none 1 (my f_))=some (.int .i64 64):=rfl;intro d;induction d with
 |zero=>
  intro i aW aa hi ho;have e:i=64:=by omega
  subst e;refine⟨aW,aa,ho, ?_⟩;rw[aj,ak dg.eq_1];generalize S++[cF.mem m9 [] false]=T at*;generalize AV.sl .none 1 (my f_)=KK at*;simp[-bS,l2,lk,lI]
 |succ d ih=>
  intro i aW aa hi ho;have h3:(i:Int)<64:=by omega
  have hw:=aV (i:=i) (by omega);have bo:∀x,e_ 1 [[AV.int .u64 0]] [(0,d32 x)]=some [[d32 x]]:=fun _=>rfl;have es:uL m (i+1)=uL m i++[if i<16 then xr m i else ZS (uL m i) i]:=rfl;have ap:∀x:UInt32,x=(if i<16 then xr m i else ZS (uL m i) i)->∃o2 t2,cb 1 aa (S++[.mem m9 [] false]) aW (.sl .exact 1 [[d32 x]])=some (o2,t2,S++[.mem m9 [] false])/\g7 1 o2 t2 (my (uL m (i+1))):=fun x hx=>by obtain⟨o2,t2,a1,a2⟩:=g7.app ho (xs:=[[d32 x]]) (by simp) (by simp;omega) .exact (S++[.mem m9 [] false]);rw[<-afy]at a2;refine⟨o2,t2,a1, ?_⟩;rw[es,<-hx];exact a2
  by_cases h16:i<16
  ·have aem:(i:Int)<16:=by omega
   have g:=ael m i (by omega) h16 rh aW aa S 4 0 0 (by omega) (by simp);have bl:=aen ((m.take (4*i+4)).drop (4*i)) 0 0 (by simp);have ql:((m.take (4*i+4)).drop (4*i)).length=4:=by simp;omega
   rw[ql]at bl;have ew:AV.int .u64 ((beN 0 ((m.take (4*i+4)).drop (4*i)):Nat):Int)=d32 (xr m i):=by show _=AV.int .u64 (((xr m i).toUInt64.toNat:Nat):Int);rw[acw];unfold xr;rw[M3,jG (by simpa using bl)]
   rw[show 4*i+0=4*i from rfl,ew]at g;obtain⟨o2,t2,a1,a2⟩:=ap (xr m i) (by rw[if_pos h16]);obtain⟨dH,aG,n1,n2⟩:=ih (i+1) o2 t2 (by omega) a2;refine⟨dH,aG,n1, ?_⟩;rw[aj,ak dg.eq_1];generalize S++[cF.mem m9 [] false]=T at*;generalize AV.sl .none 1 (my f_)=KK at*;generalize xr m i=W at*;simp at g n2 hw;simp[h3,aem, -bS,l2,lk,lI];rw[ae eO.eq_1];simp[g,bo,a1, -bS,aI];rw[ae dg.eq_1];simp[hw,n2, -bS]
  ·have aem:¬(i:Int)<16:=by omega
   have i15:=AR ho (i -15) (by rw[Sl];omega) .i64;have i2:=AR ho (i -2) (by rw[Sl];omega) .i64;have i16:=AR ho (i -16) (by rw[Sl];omega) .i64;have i7:=AR ho (i -7) (by rw[Sl];omega) .i64;have s15:bS .sub (.int .i64 (i:Int)) (.int .i64 15)=_:=acd i 15 (by omega) (by omega);have s2:bS .sub (.int .i64 (i:Int)) (.int .i64 2)=_:=acd i 2 (by omega) (by omega);have s16:bS .sub (.int .i64 (i:Int)) (.int .i64 16)=_:=acd i 16 (by omega) (by omega);have s7:bS .sub (.int .i64 (i:Int)) (.int .i64 7)=_:=acd i 7 (by omega) (by omega);obtain⟨o2,t2,a1,a2⟩:=ap (ZS (uL m i) i) (by rw[if_neg h16]);obtain⟨dH,aG,n1,n2⟩:=ih (i+1) o2 t2 (by omega) a2;refine⟨dH,aG,n1, ?_⟩;unfold ZS d32 at a1;rw[<-anG]at a1;have nx:=anG ((uL m i).getD (i -15) 0) ((uL m i).getD (i -2) 0) ((uL m i).getD (i -16) 0) ((uL m i).getD (i -7) 0);have bo':=bo ((uL m i).getD (i -16) 0+(j9 ((uL m i).getD (i -15) 0) 7^^^j9 ((uL m i).getD (i -15) 0) 18^^^tu ((uL m i).getD (i -15) 0) 3)+(uL m i).getD (i -7) 0+(j9 ((uL m i).getD (i -2) 0) 17^^^j9 ((uL m i).getD (i -2) 0) 19^^^tu ((uL m i).getD (i -2) 0) 10));unfold d32 at bo';rw[<-nx]at bo';generalize(uL m i).getD (i -15) 0=x15 at*;generalize(uL m i).getD (i -2) 0=x2 at*;generalize(uL m i).getD (i -16) 0=x16 at*;generalize(uL m i).getD (i -7) 0=x7 at*;have c2:∀T,DF ax nk 165 [.agg m9,ov x2.toUInt64,.agg [.int .i64 17,.int .i64 19,.int .i64 10]] T=_:=fun T=>QE x2 17 19 10 (by omega) (by omega) (by omega) (by omega) (by omega) T;have c15:∀T,DF ax nk 165 [.agg m9,ov x15.toUInt64,.agg [.int .i64 7,.int .i64 18,.int .i64 3]] T=_:=fun T=>QE x15 7 18 3 (by omega) (by omega) (by omega) (by omega) (by omega) T;unfold d32 at*;obtain⟨A15,aqc⟩:∃A:Int,A=((i -15:Nat):Int):=⟨_,rfl⟩;obtain⟨A2,hA2⟩:∃A:Int,A=((i -2:Nat):Int):=⟨_,rfl⟩;obtain⟨A16,aqd⟩:∃A:Int,A=((i -16:Nat):Int):=⟨_,rfl⟩;obtain⟨A7,hA7⟩:∃A:Int,A=((i -7:Nat):Int):=⟨_,rfl⟩;rw[<-aqc]at s15 i15;rw[<-hA2]at s2 i2;rw[<-aqd]at s16 i16;rw[<-hA7]at s7 i7;have kd:=uz;rw[aj,ak dg.eq_1];generalize hT:S++[cF.mem m9 [] false]=T at*;have ldr:∀x:UInt64,aY T .cell (.ec .none [ov x] 0)=some (ov x):=fun _=>rfl;generalize AV.sl .none 1 (my f_)=KK at*;generalize m9=K at*;simp at n2 hw;simp only[Tw]at bo' a1;simp[h3,aem, -bS,l2,lk,lI,aI,lA,l12,l9,l16,s15,s2,s16,s7,i15,i2,i16,i7,ldr,kd,c2,c15,bo',a1];rw[ae dg.eq_1];simp[hw,n2, -bS]
def Dv(s v:List UInt32)(i:Nat):List UInt32:=(List.zipWith (·+·) s v).take i++s.drop i
theorem aka{s v:List UInt32}(h:v.length=s.length){i:Nat}(hi:i<=s.length):(Dv s v i).length=s.length:=by simp[Dv,h];omega
theorem akb{s v:List UInt32}(h:v.length=s.length){i:Nat}(hi:i<s.length):(Dv s v i)[i]? =some (s.getD i 0):=by
 unfold Dv;have:((List.zipWith (·+·) s v).take i).length=i:=by simp[h];omega
 rw[oR (by omega),this,Nat.sub_self,MF,sR,mc hi]
theorem akc{s v:List UInt32}(h:v.length=s.length){i:Nat}(hi:i<s.length):aL ((Dv s v i).map fo) i [fo (s.getD i 0+v.getD i 0)]=(Dv s v (i+1)).map fo:=by
 have hl:((List.zipWith (·+·) s v).take i).length=i:=by simp[h];omega
 have hs:s.drop i=s.getD i 0::s.drop (i+1):=aJ (mc hi);have hz:(List.zipWith (·+·) s v)[i]? =some (s.getD i 0+v.getD i 0):=by rw[List.getElem?_zipWith,mc hi,mc (by omega)]
 have:=iJ (l:=(Dv s v i).map fo) (off:=i) (b':=[fo (s.getD i 0+v.getD i 0)]) (a:=((List.zipWith (·+·) s v).take i).map fo) (b:=[fo (s.getD i 0)]) (c:=(s.drop (i+1)).map fo) (by unfold Dv;rw[hs];simp) (by simp[h];omega) rfl;rw[this];unfold Dv;rw[sW,hz];simp
theorem V8.anJ(v:V8):v.ai=v.l.map fo:=rfl
theorem aqm(s v:V8):(Dv s.l v.l 8).map fo=(s.add v).ai:=rfl
theorem aqn(s v:V8):(Dv s.l v.l 0).map fo=s.ai:=rfl
theorem amx(S:St)(s v:List UInt32)(hs:s.length=8)(hv:v.length=8)(z w:List AV):∀d i,i+d=8->
 DC ax nk (.loop jV) ⟨[(3,.ptr S.length 0),(6,.ptr (S.length+1) 0),(11,.ptr (S.length+3) 0),(157,.int .i64 (i:Nat))],[],S.length⟩ (JS S ((Dv s v i).map fo) z w (v.map fo))=
  some (.exit 4,⟨[(3,.ptr S.length 0),(6,.ptr (S.length+1) 0)],[],S.length⟩,JS S ((Dv s v 8).map fo) z w (v.map fo)):=by
 have aI:∀a b,bS .add (.int .i64 a) (.int .i64 b)=some (.int .i64 (IntKind.wrap .i64 (a+b))):=fun _ _=>rfl;have lI:∀a b,bS .lss (.int .i64 a) (.int .i64 b)=some (.bool (decide (a<b))):=fun _ _=>rfl;intro d;induction d with
 |zero=>
  intro i hi;have e:i=8:=by omega
  subst e;rw[aj,ak jV.eq_1];simp
 |succ d ih=>
  intro i hi;have h3':(i:Int)<8:=by omega
  have hw:=aV (i:=i) (by omega);have n1:=ih (i+1) (by omega);have x3:=Ck 8 S.length i (by omega) .i64;have x11:=Ck 8 (S.length+3) i (by omega) .i64;have l3:aY (JS S ((Dv s v i).map fo) z w (v.map fo)) .cell (.ptr S.length i)=some (fo (s.getD i 0)):=by rw[bd (Vc ..),pC,gx,akb (by omega) (by omega)];rfl
  have l11:aY (JS S ((Dv s v i).map fo) z w (v.map fo)) .cell (.ptr (S.length+3) i)=some (fo (v.getD i 0)):=by rw[bd (Vb ..),pC,gx,mc (by omega)];rfl
  have st:bg [] S.length (JS S ((Dv s v i).map fo) z w (v.map fo)) 1 (.ptr S.length i) (fo (s.getD i 0+v.getD i 0))=some ([],JS S ((Dv s v (i+1)).map fo) z w (v.map fo)):=by rw[fT (ab_ _).Xo (Vc ..),if_pos ⟨rfl,by rw[List.length_map,aka (by omega) (by omega)];omega⟩,aj8];rw[show(fo (s.getD i 0+v.getD i 0)).cells=[fo (s.getD i 0+v.getD i 0)]from rfl,akc (by omega) (by omega)]
  generalize s.getD i 0=a at*;generalize v.getD i 0=b at*;generalize(Dv s v i).map fo=C at*;generalize(Dv s v (i+1)).map fo=C1 at*;generalize(Dv s v 8).map fo=C8 at*;generalize v.map fo=V at*;rw[aj,ak jV.eq_1];simp at n1 hw;simp[h3', -bS, -CE,aI,lI,x3,x11,l3,l11,st];rw[ae jV.eq_1];simp[hw,n1, -bS]
theorem ax2:fQ=List.replicate 64 (fo 0):=rfl
theorem RD(s:V8)(b:bq)(hb:64<=b.length)(m:Nat)(ks:List UInt32)(hk:ks.length=64)(S:St)(bt:List (Option Nat))(q:Bool)(hm:S[m]? =some (.mem (ks.map fo) bt q)):
 DF ax nk 126 [.agg s.ai,bO b,.ptr m 0] S=some (.agg (s.mix ks b).ai,S):=by
 have c0:=amu b hb S m s.ai cQ 64 0 (by omega);have e0:A_ b 0=fQ:=by unfold A_;rw[ax2];rfl
 have e64:A_ b 64=(uL b 64).map fo:=by unfold A_;simp
 rw[e0,e64]at c0;have c1:=amv S m ks (uL b 64) hk (by simp) bt q hm s.ai cQ s 64 0 (by omega);have r0:s.rounds ks (uL b 64) 0=s:=rfl;rw[r0]at c1;have c2:=amx S s.l (s.rounds ks (uL b 64) 64).l rfl rfl cQ ((uL b 64).map fo) 8 0 (by omega);rw[aqn,aqm,<-V8.anJ]at c2;have em:s.add (s.rounds ks (uL b 64) 64)=s.mix ks b:=rfl;rw[em]at c2;generalize s.rounds ks (uL b 64) 64=V at*;generalize s.mix ks b=M at*;generalize(uL b 64).map fo=W at*;have dS:=s.fJ;have dM:=M.fJ;have w0:S++[cF.mem s.ai [] false,cF.mem cQ [] false,cF.mem fQ [] false]=stM S s.ai cQ fQ:=rfl;have w1:stM S s.ai cQ W++[cF.mem cQ [] false]=JS S s.ai cQ W cQ:=by unfold stM JS;simp
 have lM:(stM S s.ai cQ W).length=S.length+3:=by simp[stM]
 have ld8:aY (stM S s.ai cQ W) (.agg 8) (.ptr S.length 0)=some (.agg s.ai):=by
  have:(stM S s.ai cQ W)[S.length]? =some (.mem s.ai [] false):=by have:=get_at S [.mem s.ai [] false,.mem cQ [] false,.mem W [] false] 0;rw[sR]at this;exact this
  rw[bd this,cP _ s.len,dS.dN]
 have st8:bg [] S.length (JS S s.ai cQ W cQ) 8 (.ptr (S.length+3) 0) (.agg s.ai)=some ([],JS S s.ai cQ W s.ai):=by rw[fT (jE dS) (Vb ..),if_pos ⟨s.len,by decide⟩,aco,show(AV.agg s.ai).cells=s.ai from rfl,bX (by simp)]
 have ldM:∀V,aY (JS S M.ai cQ W V) (.agg 8) (.ptr S.length 0)=some (.agg M.ai):=fun V=>by rw[bd (Vc ..),cP _ M.len,dM.dN]
 have ax5:∀V,bg [] S.length (JS S M.ai cQ W V) 8 (.ptr (S.length+1) 0) (.agg M.ai)=some ([],JS S M.ai M.ai W V):=fun V=>by rw[fT (jE dM) (acp ..),if_pos ⟨M.len,by decide⟩,aj9,show(AV.agg M.ai).cells=M.ai from rfl,bX (by simp)]
 have ldz:∀V,aY (JS S M.ai M.ai W V) (.agg 8) (.ptr (S.length+1) 0)=some (.agg M.ai):=fun V=>by rw[bd (acp ..),cP _ M.len,dM.dN]
 have rs:∀V,cC 126 [] [.agg M.ai] S (JS S M.ai M.ai W V)=some (.agg M.ai,S):=fun V=>by
  have nr:bD (.agg M.ai)=.agg M.ai:=by show AV.agg (M.ai.map cY)=_;rw[dM.kU]
  rw[lL,nr];simp[bu,aj_,dM]
 rw[NL,ak xT.eq_1];generalize fQ=Z64 at*;simp at c0 c1 c2;simp[w0];rw[ae h_.eq_1];simp[c0,ld8,w1,lM,st8];rw[ae jU.eq_1];simp[c1];rw[ae jV.eq_1];simp[c2,ldM,ax5,ldz,rs]
theorem aus(x:UInt32):(4294967295:UInt32)^^^x= ~~~x:=by apply UInt32.toBitVec_inj.1;rw[UInt32.toBitVec_xor,UInt32.toBitVec_not];exact BitVec.allOnes_xor
def V8.t64(v:V8)(k w:UInt32):UInt64:=v.h.toUInt64+(j9 v.e 6^^^j9 v.e 11^^^j9 v.e 25).toUInt64+(v.e.toUInt64&&&v.f.toUInt64^^^(4294967295^^^v.e.toUInt64)&&&v.g.toUInt64)+k.toUInt64+w.toUInt64
def V8.u64(v:V8):UInt64:=(j9 v.a 2^^^j9 v.a 13^^^j9 v.a 22).toUInt64+(v.a.toUInt64&&&v.b.toUInt64^^^v.a.toUInt64&&&v.c.toUInt64^^^v.b.toUInt64&&&v.c.toUInt64)
theorem V8.aut(v:V8)(k w:UInt32):(v.t64 k w).toUInt32=v.t k w:=by unfold V8.t64 V8.t;have hm:(4294967295:UInt64).toUInt32=4294967295:=rfl;simp only[Xl,UInt64.toUInt32_xor,UInt64.toUInt32_and,Xi,hm,aus]
theorem V8.axT(v:V8):v.u64.toUInt32=v.u:=by unfold V8.u64 V8.u;simp only[Xl,UInt64.toUInt32_xor,UInt64.toUInt32_and,Xi]
theorem V8.a64(v:V8)(k w:UInt32):(v.t64 k w+v.u64)&&&4294967295=(v.t k w+v.u).toUInt64:=by rw[U8,Xl,V8.aut,V8.axT]
theorem V8.e64(v:V8)(k w:UInt32):(v.d.toUInt64+v.t64 k w)&&&4294967295=(v.d+v.t k w).toUInt64:=by rw[U8,Xl,V8.aut,Xi]
theorem anH(x y:UInt32):(x.toUInt64+y.toUInt64)&&&4294967295=(x+y).toUInt64:=by rw[U8,Xl,Xi,Xi]
theorem aqe(l:List UInt32)(i:Nat)(h:i<l.length):oa 1 (.sl .none 1 (my l)) (.int .i64 (i:Int))=some (.ec .none [d32 (l.getD i 0)] 0):=by unfold oa;simp only[if_true,CM];rw[if_neg (by omega),afz h];rfl
theorem fb8(a b c d e f g h:UInt64):e_ 1 (List.replicate 8 [AV.int .u64 0]) [(0,ov a),(1,ov b),(2,ov c),(3,ov d),(4,ov e),(5,ov f),(6,ov g),(7,ov h)]=some [[ov a],[ov b],[ov c],[ov d],[ov e],[ov f],[ov g],[ov h]]:=by rfl
theorem ZU(ws:List UInt32)(hws:ws.length=64)(rh auu:AV)(v:V8)(S:St)(aa:List (Option Nat))(hw:g7 1 auu aa (my ws)):∀d i(aW:AV),i+d=64->g7 1 aW aa (my (v.rounds f_ ws i).l)->
 ∃dH,(aW=.sl .exact 1 (my (v.rounds f_ ws i).l)\/0<d->dH=.sl .exact 1 (my (v.rounds f_ ws 64).l))/\DC ax nk (.loop eP) ⟨[(1,rh),(3,.ptr S.length 0),(7,auu),(11,aW),(12,.int .i64 (i:Nat))],aa,S.length⟩ (S++[.mem m9 [] false])=
  some (.exit 4,⟨[(1,rh),(3,.ptr S.length 0),(11,dH)],aa,S.length⟩,S++[.mem m9 [] false]):=by
 obtain⟨l0,l2,l16,l3,l6,l9,l12,lA⟩:=U7 S;have lk:gj (.sl .none 1 (my f_))=some (.int .i64 64):=rfl;intro d;induction d with
 |zero=>
  intro i aW hi ho;have e:i=64:=by omega
  subst e;refine⟨aW,fun h=>h.resolve_right (by omega), ?_⟩;rw[aj,ak eP.eq_1];generalize S++[cF.mem m9 [] false]=T at*;generalize AV.sl .none 1 (my f_)=KK at*;simp[-bS,l2,lk,lI]
 |succ d ih=>
  intro i aW hi ho;have h3:(i:Int)<64:=by omega
  have Zu:=aV (i:=i) (by omega);have er:v.rounds f_ ws (i+1)=(v.rounds f_ ws i).round (f_.getD i 0) (ws.getD i 0):=rfl;have ixk:=aqe f_ i (by rw[show f_.length=64 from rfl];omega);have ixw:=AR hw i (by omega) .i64;have ih:=ih (i+1);rw[er]at ih;generalize v.rounds f_ ws i=V at*;generalize f_.getD i 0=k at*;generalize ws.getD i 0=w at*;have v0:oa 1 aW (.int .i64 0)=some (.ec .none [d32 V.a] 0):=AR ho 0 (show 0<8 by omega) .i64;have v1:oa 1 aW (.int .i64 1)=some (.ec .none [d32 V.b] 0):=AR ho 1 (show 1<8 by omega) .i64;have v2:oa 1 aW (.int .i64 2)=some (.ec .none [d32 V.c] 0):=AR ho 2 (show 2<8 by omega) .i64;have v3:oa 1 aW (.int .i64 3)=some (.ec .none [d32 V.d] 0):=AR ho 3 (show 3<8 by omega) .i64;have v4:oa 1 aW (.int .i64 4)=some (.ec .none [d32 V.e] 0):=AR ho 4 (show 4<8 by omega) .i64;have v5:oa 1 aW (.int .i64 5)=some (.ec .none [d32 V.f] 0):=AR ho 5 (show 5<8 by omega) .i64;have v6:oa 1 aW (.int .i64 6)=some (.ec .none [d32 V.g] 0):=AR ho 6 (show 6<8 by omega) .i64;have v7:oa 1 aW (.int .i64 7)=some (.ec .none [d32 V.h] 0):=AR ho 7 (show 7<8 by omega) .i64;have ho2:g7 1 (.sl .exact 1 (my (V.round k w).l)) aa (my (V.round k w).l):=.inr (.inl rfl);obtain⟨dH,n1,n2⟩:=ih _ (by omega) ho2;refine⟨dH,fun _=>n1 (.inl rfl), ?_⟩;clear n1;have fb:=fb8 ((V.t64 k w+V.u64)&&&4294967295) V.a.toUInt64 V.b.toUInt64 V.c.toUInt64 ((V.d.toUInt64+V.t64 k w)&&&4294967295) V.e.toUInt64 V.f.toUInt64 V.g.toUInt64;have eR:my (V.round k w).l=[[ov ((V.t64 k w+V.u64)&&&4294967295)],[ov V.a.toUInt64],[ov V.b.toUInt64],[ov V.c.toUInt64],[ov ((V.d.toUInt64+V.t64 k w)&&&4294967295)],[ov V.e.toUInt64],[ov V.f.toUInt64],[ov V.g.toUInt64]]:=by rw[V8.a64,V8.e64];rfl
  rw[<-eR]at fb;have c4:∀T,DF ax nk 166 [.agg m9,ov V.e.toUInt64,.agg [.int .i64 6,.int .i64 11,.int .i64 25]] T=_:=fun T=>XR V.e 6 11 25 (by omega) (by omega) (by omega) (by omega) (by omega) (by omega) T;have c0:∀T,DF ax nk 166 [.agg m9,ov V.a.toUInt64,.agg [.int .i64 2,.int .i64 13,.int .i64 22]] T=_:=fun T=>XR V.a 2 13 22 (by omega) (by omega) (by omega) (by omega) (by omega) (by omega) T;unfold V8.t64 V8.u64 at fb;unfold d32 at*;have kd:=uz;generalize my (V.round k w).l=D at*;rw[aj,ak eP.eq_1];generalize hT:S++[cF.mem m9 [] false]=T at*;have ldr:∀x:UInt64,aY T .cell (.ec .none [ov x] 0)=some (ov x):=fun _=>rfl;generalize AV.sl .none 1 (my f_)=KK at*;generalize m9=K at*;simp at n2 Zu;simp at fb;simp[h3, -bS,l2,lk,lI,aI,lA,l6,l3,l16,v0,v1,v2,v3,v4,v5,v6,v7,ixk,ixw,ldr,kd,c4,c0,fb];rw[ae eP.eq_1];simp[Zu,n2, -bS]
theorem ag0(s v:List UInt32)(hs:s.length=8)(hv:v.length=8)(S:St):∀d i(aW:AV)(aa:List (Option Nat)),i+d=8->g7 1 aW aa (my ((List.zipWith (·+·) s v).take i))->
 ∃dH aG,g7 1 dH aG (my (List.zipWith (·+·) s v))/\DC ax nk (.loop eQ) ⟨[(1,.sl .none 1 (my s)),(3,.ptr S.length 0),(11,.sl .exact 1 (my v)),(15,aW),(16,.int .i64 (i:Nat))],aa,S.length⟩ (S++[.mem m9 [] false])=
  some (.exit 6,⟨[(15,dH)],aG,S.length⟩,S++[.mem m9 [] false]):=by
 obtain⟨l0,l2,l16,l3,l6,l9,l12,lA⟩:=U7 S;have zl:(List.zipWith (·+·) s v).length=8:=by simp[hs,hv]
 intro d;induction d with
 |zero=>
  intro i aW aa hi ho;have e:i=8:=by omega
  subst e;rw[gO (by omega)]at ho;refine⟨aW,aa,ho, ?_⟩;rw[aj,ak eQ.eq_1];simp[-bS,lI]
 |succ d ih=>
  intro i aW aa hi ho;have h3:(i:Int)<8:=by omega
  have Zu:=aV (i:=i) (by omega);have ixs:=aqe s i (by omega);have ixv:=AR (aa:=aa) (.inr (.inl rfl):g7 1 (.sl .exact 1 (my v)) aa (my v)) i (by omega) .i64;have hz:(List.zipWith (·+·) s v)[i]? =some (s.getD i 0+v.getD i 0):=by rw[List.getElem?_zipWith,mc (by omega),mc (by omega)]
  have tz:(List.zipWith (·+·) s v).take (i+1)=(List.zipWith (·+·) s v).take i++[s.getD i 0+v.getD i 0]:=by rw[sW,hz];rfl
  have af:=anH (s.getD i 0) (v.getD i 0);have ih:=ih (i+1);rw[tz,afy]at ih;have ad:=anH (s.getD i 0) (v.getD i 0);generalize s.getD i 0=x at*;generalize v.getD i 0=y at*;obtain⟨o2,t2,a1,a2⟩:=g7.app ho (xs:=[[d32 (x+y)]]) (by simp) (by simp;omega) .exact (S++[.mem m9 [] false]);obtain⟨dH,aG,n1,n2⟩:=ih o2 t2 (by omega) a2;refine⟨dH,aG,n1, ?_⟩;have bo:e_ 1 [[AV.int .u64 0]] [(0,ov ((x.toUInt64+y.toUInt64)&&&4294967295))]=some [[ov ((x.toUInt64+y.toUInt64)&&&4294967295)]]:=rfl;unfold d32 at*;rw[<-ad]at a1;rw[aj,ak eQ.eq_1];generalize hT:S++[cF.mem m9 [] false]=T at*;have ldr:∀x:UInt64,aY T .cell (.ec .none [ov x] 0)=some (ov x):=fun _=>rfl;generalize AV.sl .none 1 (my s)=RS at*;generalize AV.sl .exact 1 (my v)=RV at*;simp at n2 Zu;simp[h3, -bS,lI,aI,l16,ixs,ixv,ldr,bo,a1];rw[ae eQ.eq_1];simp[Zu,n2, -bS]
theorem acg(v:V8)(m:bq)(hm:64<=m.length)(S:St):∃r,Wj 1 r (my (v.mix f_ m).l)/\aw r=true/\DF ax nk 129 [.agg m9,.sl .none 1 (my v.l),bO m] S=some (r,S):=by
 have kd:=uz;have kl:=JU;obtain⟨w1,t1,h1,g1⟩:=agY m hm (.sl .none 1 (my v.l)) S 64 0 .ah [] (by omega) (.inl ⟨rfl,rfl⟩);have ap:cb 1 t1 (S++[.mem m9 [] false]) (.sl .exact 1 []) (.sl .none 1 (my v.l))=some (.sl (.fr t1.length) 1 (my v.l),t1++[some 8],S++[.mem m9 [] false]):=rfl;have h2:g7 1 (.sl (.fr t1.length) 1 (my v.l)) (t1++[some 8]) (my (v.rounds f_ (uL m 64) 0).l):=.inr (.inr ⟨t1.length,rfl,by simp;rfl⟩);obtain⟨v2,e2,g2⟩:=ZU (uL m 64) (by simp) (.sl .none 1 (my v.l)) w1 v S (t1++[some 8]) (h1.more _) 64 0 _ (by omega) h2;rw[e2 (.inr (by omega))]at g2;obtain⟨o3,t3,h3,g3⟩:=ag0 v.l (v.rounds f_ (uL m 64) 64).l rfl rfl S 8 0 .ah (t1++[some 8]) (by omega) (.inl ⟨rfl,rfl⟩);have ez:List.zipWith (·+·) v.l (v.rounds f_ (uL m 64) 64).l=(v.mix f_ m).l:=rfl;rw[ez]at h3;obtain⟨r,t,f1,f2,f3⟩:=h3.res (PL _);rw[g7.nr h3]at f1;have nt:=g7.nt h3;have nr:=g7.nr h3;refine⟨r,f2,f3, ?_⟩;have bs:e_ 1 (List.replicate 0 [AV.int .u64 0]) []=some []:=rfl;rw[zB,ak kV.eq_1];generalize hT:S++[cF.mem m9 [] false]=T at*;have tk:T.take S.length=S:=by rw[<-hT];exact Fu rfl
 generalize m9=K at*;generalize my v.l=DV at*;generalize my (v.rounds f_ (uL m 64) 64).l=DR at*;simp at g1 g2 g3 bs;simp[kl,kd,hT];rw[ae dg.eq_1];simp[g1,bs,ap];rw[ae eP.eq_1];simp[g2];rw[ae eQ.eq_1];simp[g3,nt,nr,f1,f3,tk]
theorem agZ(b c:bq)(h:64<=b.length){i:Nat}(hi:i<16):xr (b++c) i=xr b i:=by unfold xr;rw[ob (by omega)]
theorem afA(b c:bq)(h:64<=b.length):∀n,uL (b++c) n=uL b n
 |0=>rfl
 |n+1=>by
  rw[uL,uL,afA b c h n];by_cases hn:n<16;·rw[if_pos hn,if_pos hn,agZ b c h hn]
  ·rw[if_neg hn,if_neg hn]
theorem afB(v:V8)(ks:List UInt32)(b c:bq)(h:64<=b.length):v.mix ks (b++c)=v.mix ks b:=by unfold V8.mix;rw[afA b c h]
theorem aj2(v:V8)(ks:List UInt32)(b:bq)(h:64<=b.length):v.mix ks (b.take 64)=v.mix ks b:=by have:=afB v ks (b.take 64) (b.drop 64) (by rw[LB];omega);rw[Xj]at this;exact this.symm
theorem ace(c:bq):∀(n:Nat)(v:V8)(b:bq),64*n<=b.length->vE n v (b++c)=vE n v b
 |0,_,_,_=>rfl
 |n+1,v,b,h=>by rw[vE,vE,afB v f_ b c (by omega),List.drop_append_of_le_length (by omega),ace c n _ _ (by rw[Cz];omega)]
theorem acf:∀(n m:Nat)(v:V8)(b:bq),vE (n+m) v b=vE m (vE n v b) (b.drop (64*n))
 |0,m,v,b=>by rw[yo,vE,Nat.mul_zero,jS]
 |n+1,m,v,b=>by rw[show n+1+m=n+m+1 by omega,vE,vE,acf n m,Hl];congr 2;omega
theorem amr(b:bq):U9 (vE (b.length/64) ft b) (b.drop (64*(b.length/64))) b.length=U9 ft b b.length:=by
 unfold U9;have hl:64*(b.length/64)<=b.length:=by omega
 have e:(b++gC b.length).length/64=b.length/64+(b.drop (64*(b.length/64))++gC b.length).length/64:=by rw[gP,gP,Cz];omega
 rw[e,acf,ace _ _ _ _ hl,List.drop_append_of_le_length hl]
theorem BD:∀k n,(Fy k n).length=k
 |0,_=>rfl
 |k+1,n=>by rw[Fy,gP,BD k];rfl
theorem XQ(n:Nat):(gC n).length=9+(119 -n %64)%64:=by unfold gC;rw[jC,gP,adB,BD];omega
theorem V8.ZT(v:V8):v.aW.length=32:=by unfold V8.aW V8.l;simp[BD]
theorem U_:∀k n,Fy (k+1) n=UInt8.ofNat (n/256^k)::Fy k n
 |0,n=>by simp[Fy]
 |k+1,n=>by rw[show Fy (k+1+1) n=Fy (k+1) (n/256)++[UInt8.ofNat n]from rfl,U_ k (n/256),Fm,adz,show 256*256^k=256^(k+1)by rw[Fv,Cs]];rfl
theorem axW(k:Nat)(h:k<100):IntKind.wrap .i64 (((k:Nat):Int) -1)=(k:Int) -1:=wrap64 (by omega)
theorem cv8(n:Nat):Hr .u8 (.int .u64 (n:Int))=some (.int .u8 (((UInt8.ofNat n).toNat:Nat):Int)):=by
 show some (AV.int .u8 (IntKind.wrap .u8 (n:Int)))=_;have:IntKind.wrap .u8 (n:Int)=((n %256:Nat):Int):=by show(n:Int)%256=_;omega
 rw[this,yA]
theorem auv(N k:Nat)(h:k<8):bS .shr (.int .u64 (N:Int)) (.int .i64 ((8*k:Nat):Int))=some (.int .u64 ((N/256^k:Nat):Int)):=by
 show(if((8*k:Nat):Int)<0 then none else some (AV.int .u64 ((N:Int).fdiv (2^(min ((8*k:Nat):Int).toNat 64)))))=_;have e:(256:Nat)^k=2^(8*k):=by rw[Nat.pow_mul]
 rw[if_neg (by omega),CM,LR (by omega),U6,Nat.shiftRight_eq_div_pow,e]
theorem aeo(b:bq)(hb:b.length<1000000000)(S:St):∀d k(aW:AV)(aa:List (Option Nat)),k+d=(119 -b.length %64)%64->mU aW aa (b++128::List.replicate k 0)->
 ∃dH aG,mU dH aG (b++128::List.replicate ((119 -b.length %64)%64) 0)/\DC ax nk (.loop iQ) ⟨[(1,bO b),(2,.ptr S.length 0),(5,aW),(6,.int .i64 64)],aa,S.length⟩ (S++[.mem m9 [] false])=
  some (.exit 0,⟨[(1,bO b),(2,.ptr S.length 0),(5,dH),(6,.int .i64 64)],aG,S.length⟩,S++[.mem m9 [] false]):=by
 have l15:aY (S++[.mem m9 [] false]) .cell (.ptr S.length 15)=some (.int .i64 8):=by rw[gQ];rfl
 intro d;induction d with
 |zero=>
  intro k aW aa hk ho;have ek:k=(119 -b.length %64)%64:=by omega
  have ln:=g7.len ho;have e1:(bW (b++128::List.replicate k 0)).length=b.length+1+k:=by simp;omega
  rw[e1]at ln;have hz:(((b.length+1+k:Nat):Int)+8).tmod 64=0:=by rw[adw (by omega)];omega
  have wz:IntKind.wrap .i64 (((b.length+1+k:Nat):Int)+8)=((b.length+1+k:Nat):Int)+8:=wrap64 (by omega);rw[<-ek];refine⟨aW,aa,ho, ?_⟩;rw[aj,ak iQ.eq_1];generalize((b.length+1+k:Nat):Int)=N at*;simp[ln,l15,wz,hz]
 |succ d ih=>
  intro k aW aa hk ho;have ln:=g7.len ho;have e1:(bW (b++128::List.replicate k 0)).length=b.length+1+k:=by simp;omega
  rw[e1]at ln;have hz:¬(((b.length+1+k:Nat):Int)+8).tmod 64=0:=by rw[adw (by omega)];omega
  have wz:IntKind.wrap .i64 (((b.length+1+k:Nat):Int)+8)=((b.length+1+k:Nat):Int)+8:=wrap64 (by omega);obtain⟨o2,t2,a1,a2⟩:=ho.one 0 (by simp;omega) (S++[.mem m9 [] false]);have er:b++128::List.replicate k 0++[0]=b++128::List.replicate (k+1) (0:UInt8):=by rw[fB,Fm,<-List.replicate_succ']
  rw[er]at a2;obtain⟨dH,aG,n1,n2⟩:=ih (k+1) o2 t2 (by omega) a2;refine⟨dH,aG,n1, ?_⟩;have z0:(((0:UInt8).toNat:Nat):Int)=0:=rfl;rw[z0]at a1;rw[aj,ak iQ.eq_1];generalize((b.length+1+k:Nat):Int)=N at*;generalize S++[cF.mem m9 [] false]=T at*;try simp at n2
  simp[ln,l15,wz,hz,a1];rw[ae iQ.eq_1];simp[n2]
theorem aep(N:Nat)(S:St):∀k(s:bq)(aW:AV)(aa:List (Option Nat)),k<=8->s.length+k<1000000000->mU aW aa s->
 ∃dH aG,mU dH aG (s++Fy k N)/\DC ax nk (.loop iR) ⟨[(2,.ptr S.length 0),(5,aW),(6,.int .i64 64),(7,.int .u64 (N:Int)),(8,.int .i64 ((k:Int) -1))],aa,S.length⟩ (S++[.mem m9 [] false])=
  some (.exit 2,⟨[(2,.ptr S.length 0),(5,dH),(6,.int .i64 64)],aG,S.length⟩,S++[.mem m9 [] false]):=by
 intro k;induction k with
 |zero=>
  intro s aW aa hk hs ho;refine⟨aW,aa,by rw[Fy,kH];exact ho, ?_⟩;rw[aj,ak iR.eq_1];simp
 |succ k ih=>
  intro s aW aa hk hs ho;have ek:(((k+1:Nat):Int) -1)=(k:Int):=by omega
  rw[ek];have h0:(0:Int)<=(k:Int):=by omega
  have h8:¬(8:Int)<=(k:Int):=by omega
  obtain⟨o2,t2,a1,a2⟩:=ho.one (UInt8.ofNat (N/256^k)) (by omega) (S++[.mem m9 [] false]);obtain⟨dH,aG,n1,n2⟩:=ih (s++[UInt8.ofNat (N/256^k)]) o2 t2 (by omega) (by simp;omega) a2;refine⟨dH,aG,by rw[U_];simpa using n1, ?_⟩;have m8:bS .mul (.int .i64 8) (.int .i64 (k:Int))=some (.int .i64 ((8*k:Nat):Int)):=by show some (AV.int .i64 (IntKind.wrap .i64 (8*(k:Int))))=_;rw[wrap64 (by omega)];congr 2
  have sh:=auv N k (by omega);have cv:=cv8 (N/256^k);have gI:∀a b,bS .geq (.int .i64 a) (.int .i64 b)=some (.bool (decide (a≥b))):=fun _ _=>rfl;have sI:bS .sub (.int .i64 (k:Int)) (.int .i64 1)=some (.int .i64 ((k:Int) -1)):=by show some (AV.int .i64 (IntKind.wrap .i64 ((k:Int) -1)))=_;rw[axW k (by omega)]
  generalize UInt8.ofNat (N/256^k)=u at*;generalize((8*k:Nat):Int)=A at*;generalize((N/256^k:Nat):Int)=B at*;rw[aj,ak iR.eq_1];generalize S++[cF.mem m9 [] false]=T at*;try simp at n2
  simp[h0,h8, -bS, -Hr,gI,m8,sh,cv,a1,sI];rw[ae iR.eq_1];simp[n2, -bS]
def HV(h:AV)(v:V8):Prop:=h=.sl .none 1 (my v.l)\/∃aa,g7 1 h aa (my v.l)
theorem aqf(v:V8):my v.l≠[]:=by simp[my,V8.l]
theorem HV.aiC{h:AV}{v:V8}(H:HV h v)(T:St):bN T h=some (.sl .none 1 (my v.l))\/bN T h=some (.sl .exact 1 (my v.l)):=by
 rcases H with rfl|⟨t,H⟩;·exact .inl rfl
 ·rcases H with⟨h1,_⟩|rfl|⟨k,rfl,_⟩
  ·exact absurd h1 (aqf v)
  ·exact .inr rfl
  ·exact .inl rfl
theorem ach(v:V8):norm (.sl .none 1 (my v.l))=.sl .none 1 (my v.l)/\norm (.sl .exact 1 (my v.l))=.sl .none 1 (my v.l):=⟨rfl,rfl⟩
theorem HV.lock{h:AV}{v:V8}(H:HV h v)(T:St):cg T h=T:=by
 rcases H with rfl|⟨t,H⟩;·rfl
 ·exact g7.lock H T
theorem HV.unlock{h:AV}{v:V8}(H:HV h v)(T T':St):bB T T' h=T':=by
 rcases H with rfl|⟨t,H⟩;·rfl
 ·exact g7.unlock H T T'
theorem HV.ix{h:AV}{v:V8}(H:HV h v)(i:Nat)(hi:i<8):oa 1 h (.int .i64 (i:Int))=some (.ec .none [d32 (v.l.getD i 0)] 0):=by
 rcases H with rfl|⟨t,H⟩;·exact aqe v.l i hi
 ·exact AR H i hi .i64
theorem aqg(r:jQ)(M:bq)(h:64<=M.length):∃q,zn 1 (.sl r 1 (bW M)) none (some (.int .i64 64))=some (.sl q 1 (bW (M.take 64)))/\(q=r\/q=vW r):=by
 have e2:(List.take 64 (bW M)).drop 0=bW (M.take 64):=by simp[bW]
 by_cases h64:M.length=64
 ·refine⟨r, ?_,.inl rfl⟩
  unfold zn;simp only[aav];rw[if_neg (by simp),lR,if_pos ⟨by omega,by omega⟩];simp only[show(64:Int).toNat=64 from rfl];rw[if_pos ⟨trivial,h64.symm⟩,gO (by omega)]
 ·refine⟨vW r, ?_,.inr rfl⟩
  unfold zn;simp only[aav];rw[if_neg (by simp),lR,if_pos ⟨by omega,by omega⟩];simp only[show(64:Int).toNat=64 from rfl];rw[if_neg (by omega),e2]
theorem aqh(r:jQ)(M:bq)(h:64<=M.length):zn 1 (.sl r 1 (bW M)) (some (.int .i64 64)) none=some (.sl (vW r) 1 (bW (M.drop 64))):=by
 have e2:(List.take (bW M).length (bW M)).drop 64=bW (M.drop 64):=by rw[Hd];simp[bW]
 unfold zn;simp only[aav];rw[if_neg (by simp),lR,if_pos ⟨by omega,by omega⟩];simp only[show(64:Int).toNat=64 from rfl];rw[if_neg (by omega),<-lR M,e2]
theorem ZV(S:St):∀n(M:bq)(r:jQ)(h:AV)(v:V8)(aa:List (Option Nat)),M.length=64*n->(r=.none\/r=.exact\/∃k,r=.fr k)->HV h v->
 ∃h' aG,HV h' (vE n v M)/\DC ax nk (.loop iS) ⟨[(2,.ptr S.length 0),(5,.sl r 1 (bW M)),(6,.int .i64 64),(9,h)],aa,S.length⟩ (S++[.mem m9 [] false])=
  some (.exit 4,⟨[(2,.ptr S.length 0),(9,h')],aG,S.length⟩,S++[.mem m9 [] false]):=by
 obtain⟨l0,l2,l16,l3,l6,l9,l12,lA⟩:=U7 S;have gI:∀a b,bS .gtr (.int .i64 a) (.int .i64 b)=some (.bool (decide (a>b))):=fun _ _=>rfl;intro n;induction n with
 |zero=>
  intro M r h v aa hM hr hv;have e:M=[]:=Tn (by omega);subst e;refine⟨h,aa,hv, ?_⟩;rw[aj,ak iS.eq_1];simp[gj,bW]
 |succ n ih=>
  intro M r h v aa hM hr hv;have h64:64<=M.length:=by omega
  have hp:(0:Int)<(M.length:Int):=by omega
  have hpn:0<M.length:=by omega
  obtain⟨q,s1,hq⟩:=aqg r M h64;have s2:=aqh r M h64;have hr2:vW r=.none:=by rcases hr with rfl|rfl|⟨k,rfl⟩<;>rfl
  have hq2:q=.none\/q=.exact\/∃k,q=.fr k:=by
   rcases hq with rfl|rfl;·exact hr
   ·exact .inl hr2
  obtain⟨o,b1,b2,b3⟩:=acg v (M.take 64) (by rw[LB];omega) (S++[.mem m9 [] false]);rw[aj2 v f_ M h64]at b1;obtain⟨o2,t2,c1,c2⟩:=b1.take aa;obtain⟨h',aG,n1,n2⟩:=ih (M.drop 64) .none o2 (v.mix f_ M) (aa++t2) (by rw[Cz];omega) (.inl rfl) (.inr ⟨_,c2⟩);refine⟨h',aG,n1, ?_⟩;have tn:M.take 64≠[]:=by intro e;have hh:=congrArg List.length e;rw[LB,Ov]at hh;omega
  have gq:∀T,(bN T (.sl q 1 (bW (M.take 64)))).map norm=some (bO (M.take 64)):=fun T=>by
   have e1:norm (.sl .none 1 (bW (M.take 64)))=bO (M.take 64):=by cases hh:M.take 64 with
    |nil=>exact absurd hh tn
    |cons a w=>rfl
   have e2:norm (.sl .exact 1 (bW (M.take 64)))=bO (M.take 64):=by cases hh:M.take 64 with
    |nil=>exact absurd hh tn
    |cons a w=>rfl
   rcases hq2 with rfl|rfl|⟨k,rfl⟩;·exact congrArg some e1
   ·exact congrArg some e2
   ·exact congrArg some e1
  obtain⟨gm,g1,g2⟩:∃gm,(∀T,bN T (.sl q 1 (bW (M.take 64)))=some gm)/\norm gm=bO (M.take 64):=by
   rcases hq2 with rfl|rfl|⟨k,rfl⟩;·exact⟨_,fun _=>rfl,by have:=gq S;simpa[bN]using this⟩
   ·exact⟨_,fun _=>rfl,by have:=gq S;simpa[bN]using this⟩
   ·exact⟨_,fun _=>rfl,by have:=gq S;simpa[bN]using this⟩
  have lm:∀T,cg T (.sl q 1 (bW (M.take 64)))=T:=fun T=>by rcases hq2 with rfl|rfl|⟨k,rfl⟩<;>rfl
  have um:∀T T',bB T T' (.sl q 1 (bW (M.take 64)))=T':=fun T T'=>by rcases hq2 with rfl|rfl|⟨k,rfl⟩<;>rfl
  obtain⟨gh,d1,d2⟩:∃gh,bN (S++[.mem m9 [] false]) h=some gh/\norm gh=.sl .none 1 (my v.l):=by
   rcases hv.aiC (S++[.mem m9 [] false])with e|e;·exact⟨_,e,(ach v).1⟩
   ·exact⟨_,e,(ach v).2⟩
  have lh:=hv.lock;have uh:=hv.unlock;have kd:=uz;have lnM:gj (.sl r 1 (bW M))=some (.int .i64 (M.length:Int)):=by simp[gj]
  rw[hr2]at s2;rw[aj,ak iS.eq_1];generalize AV.sl q 1 (bW (M.take 64))=MQ at*;generalize AV.sl .none 1 (my v.l)=DV at*;generalize hT:S++[cF.mem m9 [] false]=T at*;generalize m9=K at*;try simp at n2
  simp[lnM,hpn, -bS,gI,lA,s1,s2,kd,g1,g2,lm,um,d1,d2,lh,uh,dW,dj,b3,c1];rw[ae iS.eq_1];simp[n2, -bS]
theorem gI(a b:Int):bS .geq (.int .i64 a) (.int .i64 b)=some (.bool (decide (a≥b))):=rfl
theorem aeq(S:St)(h:AV)(v:V8)(H:HV h v)(i:Nat)(hi:i<8):∀k(s:bq)(aW:AV)(aa:List (Option Nat)),k<=4->s.length+k<1000->mU aW aa s->
 ∃dH aG,mU dH aG (s++Fy k (v.l.getD i 0).toNat)/\DC ax nk (.loop iT) ⟨[(2,.ptr S.length 0),(9,h),(10,aW),(11,.int .i64 (i:Nat)),(12,.int .i64 (8*(k:Int) -8))],aa,S.length⟩ (S++[.mem m9 [] false])=
  some (.exit 8,⟨[(2,.ptr S.length 0),(9,h),(10,dH),(11,.int .i64 (i:Nat))],aG,S.length⟩,S++[.mem m9 [] false]):=by
 have ix:=H.ix i hi;generalize v.l.getD i 0=x at*;have axY:ov x.toUInt64=.int .u64 ((x.toNat:Nat):Int):=by unfold ov;rw[acw]
 intro k;induction k with
 |zero=>
  intro s aW aa hk hs ho;refine⟨aW,aa,by rw[Fy,kH];exact ho, ?_⟩;rw[aj,ak iT.eq_1];simp
 |succ k ih=>
  intro s aW aa hk hs ho;have ek:8*((k+1:Nat):Int) -8=((8*k:Nat):Int):=by omega
  rw[ek];have h0:(0:Int)<=((8*k:Nat):Int):=by omega
  obtain⟨o2,t2,a1,a2⟩:=ho.one (UInt8.ofNat (x.toNat/256^k)) (by omega) (S++[.mem m9 [] false]);obtain⟨dH,aG,n1,n2⟩:=ih (s++[UInt8.ofNat (x.toNat/256^k)]) o2 t2 (by omega) (by simp;omega) a2;refine⟨dH,aG,by rw[U_];simpa using n1, ?_⟩;have sh:=auv x.toNat k (by omega);rw[<-axY]at sh;have cv:=cv8 (x.toNat/256^k);have sI:bS .sub (.int .i64 ((8*k:Nat):Int)) (.int .i64 8)=some (.int .i64 (8*(k:Int) -8)):=by show some (AV.int .i64 (IntKind.wrap .i64 (((8*k:Nat):Int) -8)))=_;rw[wrap64 (by omega)];congr 2
  generalize UInt8.ofNat (x.toNat/256^k)=u at*;generalize((8*k:Nat):Int)=A at*;generalize 8*(k:Int) -8=C at*;generalize((x.toNat/256^k:Nat):Int)=B at*;rw[aj,ak iT.eq_1];generalize S++[cF.mem m9 [] false]=T at*;have ldr:aY T .cell (.ec .none [ov x.toUInt64] 0)=some (ov x.toUInt64):=rfl;unfold d32 at*;try simp at n2
  simp[h0, -bS, -Hr,gI,ix,ldr,sh,cv,a1,sI];rw[ae iT.eq_1];simp[n2, -bS]
theorem ag2(S:St)(h:AV)(v:V8)(H:HV h v):∀d i(aW:AV)(aa:List (Option Nat)),i+d=8->mU aW aa ((v.l.take i).flatMap fun x=>Fy 4 x.toNat)->
 ∃dH aG,mU dH aG v.aW/\DC ax nk (.loop iU) ⟨[(2,.ptr S.length 0),(9,h),(10,aW),(11,.int .i64 (i:Nat))],aa,S.length⟩ (S++[.mem m9 [] false])=
  some (.exit 6,⟨[(10,dH)],aG,S.length⟩,S++[.mem m9 [] false]):=by
 obtain⟨l0,l2,l16,l3,l6,l9,l12,lA⟩:=U7 S
 have fl:∀l:List UInt32,(l.flatMap fun x=>Fy 4 x.toNat).length=4*l.length:=by
  intro l;induction l with
  |nil=>rfl
  |cons a r ih=>rw[z6,gP,ih,BD,jC];omega
 intro d;induction d with
 |zero=>
  intro i aW aa hi ho;have e:i=8:=by omega
  subst e;refine⟨aW,aa,ho, ?_⟩;rw[aj,ak iU.eq_1];simp[-bS,lI]
 |succ d ih=>
  intro i aW aa hi ho;have h3:(i:Int)<8:=by omega
  have Zu:=aV (i:=i) (by omega);have sI:bS .sub (.int .i64 32) (.int .i64 8)=some (.int .i64 24):=rfl;obtain⟨o2,t2,a1,a2⟩:=aeq S h v H i (by omega) 4 _ aW aa (by omega) (by rw[fl,LB];omega) ho;have tk:(v.l.take i).flatMap (fun x=>Fy 4 x.toNat)++Fy 4 (v.l.getD i 0).toNat=(v.l.take (i+1)).flatMap fun x=>Fy 4 x.toNat:=by rw[sW,mc (show i<v.l.length from by show i<8;omega)];simp
  rw[tk]at a1;obtain⟨dH,aG,n1,n2⟩:=ih (i+1) o2 t2 (by omega) a1;refine⟨dH,aG,n1, ?_⟩;have e24:8*((4:Nat):Int) -8=24:=by omega
  rw[e24]at a2;rw[aj,ak iU.eq_1];generalize S++[cF.mem m9 [] false]=T at*;simp at n2 Zu;simp[h3, -bS,lI,l0,sI];rw[ae iT.eq_1];simp[a2, -bS,aI];rw[ae iU.eq_1];simp[Zu,n2, -bS]
theorem ag3(b:bq)(hb:b.length<100000000)(S:St):∃r,J7 r (U9 ft b b.length)/\DF ax nk 79 [.agg m9,bO b] S=some (r,S):=by
 have kd:=uz;have kl:=JU;obtain⟨l0,l2,l16,l3,l6,l9,l12,lA⟩:=U7 S;have l1:aY (S++[.mem m9 [] false]) .cell (.ptr S.length 1)=some (.sl .none 1 (my ft.l)):=by rw[gQ];rfl
 have l15:aY (S++[.mem m9 [] false]) .cell (.ptr S.length 15)=some (.int .i64 8):=by rw[gQ];rfl
 have hex:mU (.sl .exact 1 []) [] []:=.inr (.inl rfl);obtain⟨z,ez⟩:∃z,bL (S++[.mem m9 [] false]) (bO b)=some (z,bW b)/\(bW b≠[]->z=1):=by
  cases b with
  |nil=>exact⟨1,rfl,fun _=>rfl⟩
  |cons a r=>exact⟨1,rfl,fun _=>rfl⟩
 obtain⟨o1,t1,a1,a2⟩:=g7.alU hex (xs:=bW b) (x:=bO b) (S:=S++[.mem m9 [] false]) (by simp[bW];omega) ⟨z,ez⟩;have a2':mU o1 t1 b:=by simpa[mU,bW]using a2
 obtain⟨o2,t2,b1,b2⟩:=a2'.one 128 (by omega) (S++[.mem m9 [] false]);obtain⟨o3,t3,c1,c2⟩:=aeo b (by omega) S ((119 -b.length %64)%64) 0 o2 t2 (by omega) b2;obtain⟨o4,t4,d1,d2⟩:=aep (8*b.length) S 8 _ o3 t3 (by omega) (by simp;omega) c1;have em:b++128::List.replicate ((119 -b.length %64)%64) 0++Fy 8 (8*b.length)=b++gC b.length:=by simp[gC]
 rw[em]at d1;obtain⟨N,hN⟩:∃N,(b++gC b.length).length=64*N:=⟨(b++gC b.length).length/64,by rw[gP,XQ];omega⟩;have ed:U9 ft b b.length=(vE N ft (b++gC b.length)).aW:=by unfold U9;rw[hN,Nat.mul_div_cancel_left _ (by omega)]
 have nV:b++gC b.length≠[]:=by simp[gC]
 obtain⟨r,eo,hr⟩:∃r,o4=.sl r 1 (bW (b++gC b.length))/\(r=.none\/r=.exact\/∃k,r=.fr k):=by
  rcases d1 with⟨h,_⟩|h|⟨k,h,_⟩;·exact absurd ((kN _).1 h) nV
  ·exact⟨_,h,.inr (.inl rfl)⟩
  ·exact⟨_,h,.inr (.inr ⟨k,rfl⟩)⟩
 obtain⟨h5,t5,e1,e2⟩:=ZV S N (b++gC b.length) r (.sl .none 1 (my ft.l)) ft t4 hN hr (.inl rfl);rw[<-eo]at e2;obtain⟨o6,t6,f1,f2⟩:=ag2 S h5 _ e1 8 0 .ah t5 (by omega) (.inl ⟨rfl,rfl⟩);obtain⟨q,t,q1,q2,q3,q4,q5⟩:=f1.fin;refine⟨q,by rw[ed];exact q5, ?_⟩;have bs:e_ 1 (List.replicate 0 [AV.int .u8 0]) []=some []:=rfl;have axZ:(((128:UInt8).toNat:Nat):Int)=128:=rfl;rw[axZ]at b1;have w8:IntKind.wrap .u64 (b.length:Int)=(b.length:Int):=by show(b.length:Int)%18446744073709551616=_;omega
 have m8:bS .mul (.int .u64 (b.length:Int)) (.int .u64 8)=some (.int .u64 ((8*b.length:Nat):Int)):=by
  show some (AV.int .u64 (IntKind.wrap .u64 ((b.length:Int)*8)))=_;have:IntKind.wrap .u64 ((b.length:Int)*8)=((8*b.length:Nat):Int):=by show((b.length:Int)*8)%18446744073709551616=_;omega
  rw[this]
 have m2:bS .mul (.int .i64 2) (.int .i64 32)=some (.int .i64 64):=rfl;have s1:bS .sub (.int .i64 8) (.int .i64 1)=some (.int .i64 7):=rfl;have e7:((8:Nat):Int) -1=7:=by omega
 rw[e7]at d2;have e0:((0:Nat):Int)=0:=rfl;rw[e0]at f2;rw[Jb,ak sF.eq_1];generalize((8*b.length:Nat):Int)=L8 at*;generalize hT:S++[cF.mem m9 [] false]=T at*;have tk:T.take S.length=S:=by rw[<-hT];exact Fu rfl
 generalize AV.sl .none 1 (my ft.l)=H0 at*;generalize m9=K at*;simp at bs;simp[kl,kd,hT,bs,a1,b1,l0,m2, -bS];rw[ae iQ.eq_1];simp[c2,w8,m8,l15,s1, -bS];rw[ae iR.eq_1];simp[d2,l1, -bS];rw[ae iS.eq_1];simp[e2, -bS];rw[ae iU.eq_1];simp[f2,q1,q2,q3,q4,tk, -bS]
theorem auw:e_ 1 (List.replicate 8 [AV.int .u64 0]) [(0,.int .u64 1779033703),(1,.int .u64 3144134277),(2,.int .u64 1013904242),(3,.int .u64 2773480762),(4,.int .u64 1359893119),(5,.int .u64 2600822924),(6,.int .u64 528734635),(7,.int .u64 1541459225)]=some (my ft.l):=by kernel_rfl
theorem auy:e_ 1 (List.replicate 64 [AV.int .u64 0]) [(0,.int .u64 1116352408),(1,.int .u64 1899447441),(2,.int .u64 3049323471),(3,.int .u64 3921009573),(4,.int .u64 961987163),(5,.int .u64 1508970993),(6,.int .u64 2453635748),(7,.int .u64 2870763221),(8,.int .u64 3624381080),(9,.int .u64 310598401),(10,.int .u64 607225278),(11,.int .u64 1426881987),(12,.int .u64 1925078388),(13,.int .u64 2162078206),(14,.int .u64 2614888103),(15,.int .u64 3248222580),(16,.int .u64 3835390401),(17,.int .u64 4022224774),(18,.int .u64 264347078),(19,.int .u64 604807628),(20,.int .u64 770255983),(21,.int .u64 1249150122),(22,.int .u64 1555081692),(23,.int .u64 1996064986),(24,.int .u64 2554220882),(25,.int .u64 2821834349),(26,.int .u64 2952996808),(27,.int .u64 3210313671),(28,.int .u64 3336571891),(29,.int .u64 3584528711),(30,.int .u64 113926993),(31,.int .u64 338241895),(32,.int .u64 666307205),(33,.int .u64 773529912),(34,.int .u64 1294757372),(35,.int .u64 1396182291),(36,.int .u64 1695183700),(37,.int .u64 1986661051),(38,.int .u64 2177026350),(39,.int .u64 2456956037),(40,.int .u64 2730485921),(41,.int .u64 2820302411),(42,.int .u64 3259730800),(43,.int .u64 3345764771),(44,.int .u64 3516065817),(45,.int .u64 3600352804),(46,.int .u64 4094571909),(47,.int .u64 275423344),(48,.int .u64 430227734),(49,.int .u64 506948616),(50,.int .u64 659060556),(51,.int .u64 883997877),(52,.int .u64 958139571),(53,.int .u64 1322822218),(54,.int .u64 1537002063),(55,.int .u64 1747873779),(56,.int .u64 1955562222),(57,.int .u64 2024104815),(58,.int .u64 2227730452),(59,.int .u64 2361852424),(60,.int .u64 2428436474),(61,.int .u64 2756734187),(62,.int .u64 3204031479),(63,.int .u64 3329325298)]=some (my f_):=by kernel_rfl
def kdE(a b:List (List AV)):List AV:=[.int .i64 32,.sl .exact 1 a,.sl .exact 1 b,.int .i64 2,.int .i64 13,.int .i64 22,.int .i64 6,.int .i64 11,.int .i64 25,.int .i64 7,.int .i64 18,.int .i64 3,.int .i64 17,.int .i64 19,.int .i64 10,.int .i64 8,.int .u64 4294967295]
theorem aqi(a b:List (List AV)):dr Bx [(0,1,.int .i64 32),(1,1,.sl .exact 1 a),(2,1,.sl .exact 1 b),(3,3,.agg [.int .i64 2,.int .i64 13,.int .i64 22]),(6,3,.agg [.int .i64 6,.int .i64 11,.int .i64 25]),(9,3,.agg [.int .i64 7,.int .i64 18,.int .i64 3]),(12,3,.agg [.int .i64 17,.int .i64 19,.int .i64 10]),(15,1,.int .i64 8),(16,1,.int .u64 4294967295)]=some (kdE a b):=by simp[dr,aL,aB,kdE]
theorem aci(S:St):DF ax nk 80 [] S=some (.agg m9,S):=by
 have fh:=auw;have fq:=auy;have fk:=aqi (my ft.l) (my f_);have kl:(kdE (my ft.l) (my f_)).length=17:=rfl;have ks:(kdE (my ft.l) (my f_)).map aB=kdE (my ft.l) (my f_):=rfl;have p1:=PL ft.l;have p2:=PL f_;have kp:ck (kdE (my ft.l) (my f_))=true:=by simp[kdE,ck,aS,p1,p2]
 have nr:bD (.agg (kdE (my ft.l) (my f_)))=.agg m9:=rfl;have st:=uO (S:=S) (T:=S) rfl kp [.mem Bx [] false] 0 [] S.length 17;simp only[v_,M4]at st;rw[if_pos ⟨kl,by decide⟩,bX (by rw[kl];rfl)]at st;have ld:aY (S++[.mem (kdE (my ft.l) (my f_)) [] false]) (.agg 17) (.ptr S.length 0)=some (.agg (kdE (my ft.l) (my f_))):=by rw[gQ];exact(cP _ kl).trans (by rw[ks])
 have kd:=uz;have rs:cC 80 [] [.agg (kdE (my ft.l) (my f_))] S (S++[.mem (kdE (my ft.l) (my f_)) [] false])=some (.agg m9,S):=by rw[lL,nr];simp[bu,kd]
 have f3:∀a b c,dr [.int .i64 0,.int .i64 0,.int .i64 0] [(0,1,.int .i64 a),(1,1,.int .i64 b),(2,1,.int .i64 c)]=some [.int .i64 a,.int .i64 b,.int .i64 c]:=fun _ _ _=>rfl;rw[EW,ak qi.eq_1];generalize my ft.l=A at*;generalize my f_=B at*;generalize kdE A B=E at*;simp at fh fq fk;simp[fh,fq,f3,fk,st,ld,rs]
def sum256(b:bq):bq:=U9 ft b b.length
theorem Ae(b:bq):(sum256 b).length=32:=V8.ZT _
theorem acj(b:bq)(hb:b.length<100000000)(S:St):DF ax nk 37 [bO b] S=some (.agg (aK (sum256 b)),S):=by
 have hs:=Ae b;obtain⟨r,h1,h2⟩:=ag3 b hb (S++[.mem aD [] false,.mem aD [] false]);rw[show U9 ft b b.length=sum256 b from rfl]at h1;obtain⟨o,t,a1,a2⟩:=h1.1.take [];obtain⟨z,e1,e2⟩:=g7.elems a2 (S++[.mem aD [] false,.mem aD [] false]);have c0:=aci (S++[.mem aD [] false,.mem aD [] false]);generalize sum256 b=s at*;have sn:bW s≠[]:=by intro e;have:=(kN _).1 e;rw[this]at hs;simp at hs
 have z1:=e2 sn;subst z1;have kd:=uz;have fl:((bW s).take 32).flatten=aK s:=by rw[gO (by simp[hs]),TO]
 have cp:CF S.length (S++[.mem aD [] false,.mem aD [] false]) 1 (.aref (S.length+1) 0 32 32 1) o=some (.int .i64 32,S++[.mem aD [] false,.mem (aK s) [] false]):=by unfold CF;rw[e1];simp only[G6];rw[if_neg (by omega),gT (S:=S) rfl];simp only[Xh,v_];rw[if_pos ⟨by decide,.inl (by omega)⟩,sT (S:=S) rfl,fl,bX (by simp[hs])];simp[hs]
 have dl:j1 (aK s):=cH s;have ld:aY (S++[.mem aD [] false,.mem (aK s) [] false]) (.agg 32) (.ptr (S.length+1) 0)=some (.agg (aK s)):=by rw[lT (S:=S) rfl];simp[hs]
 have st:=fun aa=>uO (S:=S) rfl dl.aS [.mem aD [] false,.mem (aK s) [] false] 0 aa S.length 32;have ld2:aY (S++[.mem (aK s) [] false,.mem (aK s) [] false]) (.agg 32) (.ptr S.length 0)=some (.agg (aK s)):=by rw[lT0 (S:=S) rfl];simp[hs]
 have vG:aL aD 0 (aK s)=aK s:=bX (by simp[hs])
 have rs:∀aa G,cC 37 aa [.agg (aK s)] S (S++G)=some (.agg (aK s),S):=fun aa G=>by
  have nr:bD (.agg (aK s))=.agg (aK s):=by show AV.agg ((aK s).map cY)=_;rw[dl.kU]
  rw[lL,nr];simp[bu,dl]
 simp only[v_,M4]at st;simp only[vG]at st;have st:=fun aa=>(st aa).trans (if_pos ⟨by simp[hs],by decide⟩);rw[EN,ak p8.eq_1];generalize m9=K at*;simp at h2 cp c0;simp[c0,kd,h2,a1,xD,cp,ld,st,ld2,rs]
theorem akd:f_.length=64:=rfl
theorem XS(l:List UInt32):j1 (l.map fo):=by
 induction l with
 |nil=>simp
 |cons a r ih=>simp[ih]
theorem N5(S:St):DF ax nk 124 [] S=some (.agg ft.ai,S):=by
 have fw:dr cQ [(0,1,.int .u32 1779033703),(1,1,.int .u32 3144134277),(2,1,.int .u32 1013904242),(3,1,.int .u32 2773480762),(4,1,.int .u32 1359893119),(5,1,.int .u32 2600822924),(6,1,.int .u32 528734635),(7,1,.int .u32 1541459225)]=some ft.ai:=by have:=anK 1779033703 3144134277 1013904242 2773480762 1359893119 2600822924 528734635 1541459225;exact this
 have dl:=ft.fJ;have hl:ft.ai.length=8:=rfl;have nr:bD (.agg ft.ai)=.agg ft.ai:=by show AV.agg (ft.ai.map cY)=_;rw[dl.kU]
 have st:bg [] S.length (S++[.mem cQ [] false]) 8 (.ptr S.length 0) (.agg ft.ai)=some ([],S++[.mem ft.ai [] false]):=by rw[mS (jE dl)];simp only[v_];rw[if_pos ⟨hl,by decide⟩,show(AV.agg ft.ai).cells=ft.ai from rfl,bX (by rw[hl];rfl)];rfl
 have ld:aY (S++[.mem ft.ai [] false]) (.agg 8) (.ptr S.length 0)=some (.agg ft.ai):=by rw[gQ];exact(cP _ hl).trans (by rw[dl.dN])
 rw[Kt,ak t_.eq_1];generalize ft.ai=H at*;simp[fw,st,ld,bu,dl]
theorem amy:dr fQ [(0,1,.int .u32 1116352408),(1,1,.int .u32 1899447441),(2,1,.int .u32 3049323471),(3,1,.int .u32 3921009573),(4,1,.int .u32 961987163),(5,1,.int .u32 1508970993),(6,1,.int .u32 2453635748),(7,1,.int .u32 2870763221),(8,1,.int .u32 3624381080),(9,1,.int .u32 310598401),(10,1,.int .u32 607225278),(11,1,.int .u32 1426881987),(12,1,.int .u32 1925078388),(13,1,.int .u32 2162078206),(14,1,.int .u32 2614888103),(15,1,.int .u32 3248222580),(16,1,.int .u32 3835390401),(17,1,.int .u32 4022224774),(18,1,.int .u32 264347078),(19,1,.int .u32 604807628),(20,1,.int .u32 770255983),(21,1,.int .u32 1249150122),(22,1,.int .u32 1555081692),(23,1,.int .u32 1996064986),(24,1,.int .u32 2554220882),(25,1,.int .u32 2821834349),(26,1,.int .u32 2952996808),(27,1,.int .u32 3210313671),(28,1,.int .u32 3336571891),(29,1,.int .u32 3584528711),(30,1,.int .u32 113926993),(31,1,.int .u32 338241895),(32,1,.int .u32 666307205),(33,1,.int .u32 773529912),(34,1,.int .u32 1294757372),(35,1,.int .u32 1396182291),(36,1,.int .u32 1695183700),(37,1,.int .u32 1986661051),(38,1,.int .u32 2177026350),(39,1,.int .u32 2456956037),(40,1,.int .u32 2730485921),(41,1,.int .u32 2820302411),(42,1,.int .u32 3259730800),(43,1,.int .u32 3345764771),(44,1,.int .u32 3516065817),(45,1,.int .u32 3600352804),(46,1,.int .u32 4094571909),(47,1,.int .u32 275423344),(48,1,.int .u32 430227734),(49,1,.int .u32 506948616),(50,1,.int .u32 659060556),(51,1,.int .u32 883997877),(52,1,.int .u32 958139571),(53,1,.int .u32 1322822218),(54,1,.int .u32 1537002063),(55,1,.int .u32 1747873779),(56,1,.int .u32 1955562222),(57,1,.int .u32 2024104815),(58,1,.int .u32 2227730452),(59,1,.int .u32 2361852424),(60,1,.int .u32 2428436474),(61,1,.int .u32 2756734187),(62,1,.int .u32 3204031479),(63,1,.int .u32 3329325298)]=some (f_.map fo):=by kernel_rfl
theorem Mq(S:St):DF ax nk 125 [] S=some (.agg (f_.map fo),S):=by
 have fw:=amy;have dl:=XS f_;have hl:(f_.map fo).length=64:=rfl;have hz:fQ.length=64:=rfl;have nr:bD (.agg (f_.map fo))=.agg (f_.map fo):=by show AV.agg ((f_.map fo).map cY)=_;rw[dl.kU]
 have st:bg [] S.length (S++[.mem fQ [] false]) 64 (.ptr S.length 0) (.agg (f_.map fo))=some ([],S++[.mem (f_.map fo) [] false]):=by rw[mS (jE dl)];simp[AV.cells,hl,hz]
 have ld:aY (S++[.mem (f_.map fo) [] false]) (.agg 64) (.ptr S.length 0)=some (.agg (f_.map fo)):=by rw[gQ];exact(cP _ hl).trans (by rw[dl.dN])
 rw[Jc,ak sG.eq_1];generalize f_.map fo=H at*;generalize fQ=Z at*;simp[fw,st,ld,bu,dl]
def mD(v:V8)(lv:AV)(n:Int):List AV:=v.ai++[lv,.int .i64 n]
theorem N3(S:St):DF ax nk 76 [] S=some (.ptr S.length 0,S++[.mem (mD ft .ah 0) [] false]):=by
 have c1:=N5 S;rw[Uu,ak Es.eq_1];have fk:LL wU [(0,8,.agg ft.ai)]=some (mD ft .ah 0):=by kernel_rfl
 have bx:zQ 10 [] S (.iC (mD ft .ah 0))=some (.ptr S.length 0,[],S++[.mem (mD ft .ah 0) [] false]):=rfl;have bl:(mD ft .ah 0).length=10:=rfl;have cV:∀m q,KI m q (mD ft .ah 0)=true:=fun m q=>by simp[mD,V8.ai,fo,KI,lt]
 have py:(mD ft .ah 0).map aB=mD ft .ah 0:=rfl;generalize hX:mD ft .ah 0=X at*;simp[c1,fk,bx,bu,bD,a9,aw,aS,aaC,iE,oP,zK,lt,cV]
section
def LOk(j:Nat)(lv:AV)(bt:List (Option Nat))(l:bq):Prop:=(l=[]/\lv=.ah)\/(l≠[]/\∃k,lv=.sl (.bx j k) 1 (bW l)/\bt[k]? =some (some l.length))
theorem zI(v:V8)(lv:AV)(n:Int):(mD v lv n).length=10:=rfl
theorem PM(v:V8)(lv lv':AV)(n:Int):aL (mD v lv n) 8 [lv']=mD v lv' n:=rfl
theorem aqo{T:St}{j:Nat}{v:V8}{lv:AV}{n:Int}{bt:List (Option Nat)}{l b:bq}(hT:T[j]? =some (.mem (mD v lv n) bt false))(hl:LOk j lv bt l)(hb:l.length+b.length<=1073741824):
 ∃v1 t1 T1 t2 lv' bt',cb 1 [] T lv (bO b)=some (v1,t1,T1)/\(∀nb,bg t1 nb T1 1 (.ptr j 8) v1=some (t2,T.set j (.mem (mD v lv' n) bt' false)))/\LOk j lv' bt' (l++b):=by
 have hj:=(fI.1 hT).1;by_cases hbe:b=[]
 ·subst hbe
  have e:bL T (bO [])=some (1,[]):=rfl;rw[kH];rcases hl with⟨h1,rfl⟩|⟨h1,k,rfl,h2⟩
  ·refine⟨.ah,[],T,[],.ah,bt,by simp[cb,e],fun nb=>?_,.inl ⟨h1,rfl⟩⟩
   unfold bg;simp only[hT];rw[if_pos ⟨rfl,rfl,by rw[zI];omega,.inr rfl⟩];rfl
  ·refine⟨.sl (.bx j k) 1 (bW l),[],T,[],.sl (.bx j k) 1 (bW l),bt,by simp[cb,e],fun nb=>?_,.inr ⟨h1,k,rfl,h2⟩⟩
   have hp:ct (bW l)=true:=df l;unfold bg;simp only[hT];rw[if_pos ⟨rfl,rfl,by rw[zI];omega,.inr hp⟩];simp[dU,AV.cells,PM]
 ·have he:bL T (bO b)=some (1,bW b):=Jl T b hbe
  have Ms:¬b.length=0:=by cases b<;>simp at hbe⊢
  have Vq:¬bW b=[]:=fun e=>hbe ((kN _).1 e);rcases hl with⟨rfl,rfl⟩|⟨h1,k,rfl,h2⟩
  ·refine⟨.sl (.fr 0) 1 (bW b),[some b.length],T,[none],.sl (.bx j bt.length) 1 (bW b),bt++[some b.length], ?_,fun nb=>?_,.inr ⟨by simpa using hbe,bt.length,by simp,by simp⟩⟩
   ·have:b.length<=1073741824:=by simp at hb;exact hb
    unfold cb;rw[he];simp[hbe,this]
   ·have hp:ct (bW b)=true:=df b
    unfold bg;simp only[hT];rw[if_pos ⟨rfl,rfl,by rw[zI];omega,.inr hp⟩];simp[dU,AV.cells,PM]
  ·have cV:¬(1073741824<l.length+b.length):=by omega
   refine⟨.sl (.bx j k) 1 (bW (l++b)),[],T.set j (.mem (mD v (.sl (.bx j k) 1 (bW l)) n) (bt.set k (some (l++b).length)) false),[],.sl (.bx j k) 1 (bW (l++b)),bt.set k (some (l++b).length), ?_,fun nb=>?_,.inr ⟨by simp[h1],k,rfl, ?_⟩⟩
   ·unfold cb
    rw[he];simp[hbe,hT,h2,cV]
   ·have hp:ct (bW (l++b))=true:=df _
    unfold bg;simp only[qK hj];rw[if_pos ⟨rfl,rfl,by rw[zI];omega,.inr hp⟩];simp[dU,AV.cells,PM]
   ·have hk:=(fI.1 h2).1
    rw[qK hk]
def QF(S:St)(j:Nat)(c:List AV)(bt:List (Option Nat)):St:=S.set j (.mem c bt false)++[.mem (f_.map fo) [] false]
section
variable{S:St}{j:Nat}(hj:j<S.length)
include hj in
theorem BE(c:List AV)(bt:List (Option Nat)):(QF S j c bt)[j]? =some (.mem c bt false):=cd _ (qK hj)
include hj in
theorem Sn(c c':List AV)(bt bt':List (Option Nat)):(QF S j c bt).set j (.mem c' bt' false)=QF S j c' bt':=by unfold QF;rw[dL _ (by simpa using hj),Hu]
theorem auA(c:List AV)(bt:List (Option Nat)):(QF S j c bt)[S.length]? =some (.mem (f_.map fo) [] false):=by have:=get_at (S.set j (.mem c bt false)) [.mem (f_.map fo) [] false] 0;rw[sR,LW]at this;exact this
theorem ake(c:List AV)(bt:List (Option Nat)):(QF S j c bt).take S.length=S.set j (.mem c bt false):=by unfold QF;rw[ob (by simp),gO (by simp)]
include hj in
theorem Vd(bt:List (Option Nat))(k:Nat)(sz:Int):∀(n:Nat)(v:V8)(l:bq)(r:jQ)(aa:List (Option Nat)),l.length/64=n->(r=.bx j k\/r=.none)->
 ∃r',(r'=.bx j k\/r'=.none)/\DC ax nk (.loop gD) ⟨[(0,.ptr j 0),(4,.ptr S.length 0)],aa,S.length⟩ (QF S j (mD v (.sl r 1 (bW l)) sz) bt)=
  some (.exit 0,⟨[(0,.ptr j 0)],aa,S.length⟩,QF S j (mD (vE n v l) (.sl r' 1 (bW (l.drop (64*n)))) sz) bt):=by
 intro n;induction n with
 |zero=>
  intro v l r aa hn hr;have h64:¬(64:Int)<=(l.length:Int):=by omega
  have ld:aY (QF S j (mD v (.sl r 1 (bW l)) sz) bt) .cell (.ptr j 8)=some (.sl r 1 (bW l)):=by rw[bd (BE hj ..)];rfl
  refine⟨r,hr, ?_⟩;rw[aj,ak gD.eq_1];simp[dh,ld,gj,h64,vE]
 |succ n ih=>
  intro v l r aa hn hr;have aqq:64<=l.length:=by omega
  have h64:(64:Int)<=(l.length:Int):=by omega
  have ld:∀v,aY (QF S j (mD v (.sl r 1 (bW l)) sz) bt) .cell (.ptr j 8)=some (.sl r 1 (bW l)):=fun v=>by rw[bd (BE hj ..)];rfl
  have ld8:aY (QF S j (mD v (.sl r 1 (bW l)) sz) bt) (.agg 8) (.ptr j 0)=some (.agg v.ai):=by rw[bd (BE hj ..)];rfl
  obtain⟨r',h1,h2⟩:=ih (v.mix f_ l) (l.drop 64) .none aa (by rw[Cz];omega) (.inr rfl);refine⟨r',h1, ?_⟩;have ea:vE (n+1) v l=vE n (v.mix f_ l) (l.drop 64):=rfl;have ed:l.drop (64*(n+1))=(l.drop 64).drop (64*n):=by rw[Hl];congr 1;omega
  rw[ea,ed];have ln:l≠[]:=by intro e;rw[e]at aqq;simp at aqq
  have gv:∀T,bN T (.sl r 1 (bW l))=some (.sl .none 1 (bW l)):=fun T=>by rcases hr with rfl|rfl<;>rfl
  have gn:norm (.sl .none 1 (bW l))=bO l:=by cases l with
   |nil=>exact absurd rfl ln
   |cons a q=>rfl
  have gl:∀T,cg T (.sl r 1 (bW l))=T:=fun T=>by rcases hr with rfl|rfl<;>rfl
  have gu:∀T T',bB T T' (.sl r 1 (bW l))=T':=fun T T'=>by rcases hr with rfl|rfl<;>rfl
  have cm:=RD v l aqq S.length f_ akd (QF S j (mD v (.sl r 1 (bW l)) sz) bt) [] false (auA ..);have st8:bg aa S.length (QF S j (mD v (.sl r 1 (bW l)) sz) bt) 8 (.ptr j 0) (.agg (v.mix f_ l).ai)=some (aa,QF S j (mD (v.mix f_ l) (.sl r 1 (bW l)) sz) bt):=by rw[fT (jE (V8.fJ _)) (BE hj ..),Sn hj,if_pos ⟨rfl,by rw[zI];omega⟩];rfl
  have sl:zn 1 (.sl r 1 (bW l)) (some (.int .i64 64)) none=some (.sl .none 1 (bW (l.drop 64))):=by
   have e1:vW r=.none:=by rcases hr with rfl|rfl<;>rfl
   have e2:(List.take (bW l).length (bW l)).drop 64=bW (l.drop 64):=by rw[Hd];simp[bW]
   unfold zn;simp only[aav];rw[if_neg (by simp),lR,if_pos ⟨by omega,by omega⟩];simp only[show(64:Int).toNat=64 from rfl];rw[if_neg (by omega),e1,<-lR l,e2]
  have st1:bg aa S.length (QF S j (mD (v.mix f_ l) (.sl r 1 (bW l)) sz) bt) 1 (.ptr j 8) (.sl .none 1 (bW (l.drop 64)))=some (aa,QF S j (mD (v.mix f_ l) (.sl .none 1 (bW (l.drop 64))) sz) bt):=by have hp:ct (bW (l.drop 64))=true:=df _;unfold bg;simp only[BE hj];rw[if_pos ⟨rfl,rfl,by rw[zI];omega,.inr hp⟩];show some (aa,(QF ..).set j (.mem (aL _ 8 [_]) bt false))=_;rw[Sn hj,PM];rfl
  have tka:∀c,aT aa (.agg c)=(.agg c,aa):=fun _=>rfl;generalize v.mix f_ l=V at*;generalize hE:V.ai=VE at*;rw[aj,ak gD.eq_1];simp at h2;simp[dh,ld,ld8,gj,h64,gv,gn,gl,gu,dW,dj,cm,tka,st8,sl,st1];rw[ae gD.eq_1];simp[h2]
end
end
theorem Jx{S:St}{j:Nat}{v:V8}{lv:AV}{n:Nat}{bt:List (Option Nat)}{l:bq}(hS:S[j]? =some (.mem (mD v lv (n:Int)) bt false))(hl:LOk j lv bt l)(b:bq)(hb:l.length+b.length<=1073741824)(hn:n+b.length<=4611686018427387904):
 ∃lv' bt',LOk j lv' bt' ((l++b).drop (64*((l++b).length/64)))/\
  DF ax nk 77 [.ptr j 0,bO b] S=some (.cT [],S.set j (.mem (mD (vE ((l++b).length/64) v (l++b)) lv' ((n+b.length:Nat):Int)) bt' false)):=by
 have hj:=(fI.1 hS).1;have b0:du .eql .ptr true (.ptr j 0) .kF=some (.bool false):=rfl;have l9:aY S .cell (.ptr j 9)=some (.int .i64 (n:Int)):=by rw[bd hS];rfl
 have hw:IntKind.wrap .i64 ((n:Int)+(b.length:Int))=((n+b.length:Nat):Int):=by rw[wrap64 (by omega)];omega
 have s9:bg [] S.length S 1 (.ptr j 9) (.int .i64 ((n+b.length:Nat):Int))=some ([],S.set j (.mem (mD v lv ((n+b.length:Nat):Int)) bt false)):=by rw[fT (vH .i64 _) hS,if_pos ⟨rfl,by rw[zI];omega⟩];rfl
 obtain⟨N,hN⟩:∃N:Int,N=((n+b.length:Nat):Int):=⟨_,rfl⟩;rw[<-hN]at hw s9⊢;have RT:(S.set j (.mem (mD v lv N) bt false))[j]? =some (.mem (mD v lv N) bt false):=qK hj;obtain⟨v1,t1,T1,t2,lv1,ZZ,a1,a2,a3⟩:=aqo RT hl hb;rw[Hu]at a2;have l8:aY (S.set j (.mem (mD v lv N) bt false)) .cell (.ptr j 8)=some lv:=by rw[bd RT];rfl
 have hS2:(S.set j (.mem (mD v lv1 N) ZZ false))[j]? =some (.mem (mD v lv1 N) ZZ false):=qK hj;have l8':aY (S.set j (.mem (mD v lv1 N) ZZ false)) .cell (.ptr j 8)=some lv1:=by rw[bd hS2];rfl
 have ln:gj lv1=some (.int .i64 ((l++b).length:Int)):=by
  rcases a3 with⟨h1,rfl⟩|⟨_,k,rfl,_⟩;·rw[h1];rfl
  ·simp[gj]
 have xv:∀c,(S.set j c).take S.length=S.set j c:=fun c=>gO (by simp);rw[De,ak oH.eq_1];have hLl:(l++b).length<=1073741824:=by simpa using hb
 generalize l++b=L at*;by_cases h64:L.length<64
 ·have hz:L.length/64=0:=by omega
  have aqr:(L.length:Int)<64:=by omega
  rw[hz];refine⟨lv1,ZZ,a3, ?_⟩;have e0:vE 0 v L=v:=rfl;rw[e0];simp[b0,dh,l9,hw,s9,l8,a1,a2,l8',ln,aqr,xv,cC,ay,bA,aw]
 ·have aqr:¬(L.length:Int)<64:=by omega
  obtain⟨nV,k,rfl,hk⟩:L≠[]/\∃k,lv1=.sl (.bx j k) 1 (bW L)/\ZZ[k]? =some (some L.length):=by
   rcases a3 with⟨h1,_⟩|h;·rw[h1]at h64;simp at h64
   ·exact h
  obtain⟨r',Co,g⟩:=Vd hj ZZ k N (L.length/64) v L (.bx j k) t2 rfl (.inl rfl);generalize hR:L.drop (64*(L.length/64))=R at*;have hRl:R.length<=1073741824:=by rw[<-hR,Cz];omega
  generalize vE (L.length/64) v L=V at*;have cr:=fun T=>Mq T;have hz:fQ.length=64:=rfl
  have stk:∀c bt aa,bg aa S.length (S.set j (.mem c bt false)++[.mem fQ [] false]) 64 (.ptr S.length 0) (.agg (f_.map fo))=some (aa,QF S j c bt):=fun c bt aa=>by
   have e:S.length=(S.set j (.mem c bt false)).length:=by simp
   rw[e,mS (jE (XS f_))];simp only[v_];rw[if_pos ⟨rfl,by rw[hz];omega⟩,show(AV.agg (f_.map fo)).cells=f_.map fo from rfl,bX (by rw[hz];rfl)];rfl
  have tka:∀t c,aT t (.agg c)=(.agg c,t):=fun _ _=>rfl;have l8R:aY (QF S j (mD V (.sl r' 1 (bW R)) N) ZZ) .cell (.ptr j 8)=some (.sl r' 1 (bW R)):=by rw[bd (BE hj ..)];rfl
  obtain⟨lv',bt',v3,t3,q1,q2,q3⟩:∃lv' bt' v3 t3,cb 1 t2 (QF S j (mD V (.sl r' 1 (bW R)) N) ZZ) .ah (.sl r' 1 (bW R))=some (v3,t3,QF S j (mD V (.sl r' 1 (bW R)) N) ZZ)/\
   (∃t4,bg t3 S.length (QF S j (mD V (.sl r' 1 (bW R)) N) ZZ) 1 (.ptr j 8) v3=some (t4,QF S j (mD V lv' N) bt'))/\LOk j lv' bt' R:=by
   by_cases hRe:R=[]
   ·subst hRe
    refine⟨.ah,ZZ,.ah,t2,by simp[cb,bL,bW],⟨t2, ?_⟩,.inl ⟨rfl,rfl⟩⟩;unfold bg;simp only[BE hj];rw[if_pos ⟨rfl,rfl,by rw[zI];omega,.inr rfl⟩];show some (t2,(QF ..).set j (.mem (aL _ 8 [_]) ZZ false))=_;rw[Sn hj,PM];rfl
   ·have Vq:¬bW R=[]:=fun e=>hRe ((kN _).1 e)
    have hp:ct (bW R)=true:=df R;refine⟨.sl (.bx j ZZ.length) 1 (bW R),ZZ++[some R.length],.sl (.fr t2.length) 1 (bW R),t2++[some R.length],by simp[cb,bL,hRe,hRl],⟨(t2++[some R.length]).set t2.length none, ?_⟩,.inr ⟨hRe,ZZ.length,rfl,by simp⟩⟩;unfold bg;simp only[BE hj];rw[if_pos ⟨rfl,rfl,by rw[zI];omega,.inr hp⟩];have Hk:dU (t2++[some R.length]) j ZZ (.sl (.fr t2.length) 1 (bW R))=(.sl (.bx j ZZ.length) 1 (bW R),(t2++[some R.length]).set t2.length none,ZZ++[some R.length]):=by unfold dU;simp
    rw[Hk];show some (_,(QF ..).set j (.mem (aL _ 8 [_]) (ZZ++[some R.length]) false))=_;rw[Sn hj,PM]
  obtain⟨t4,q2⟩:=q2;refine⟨lv',bt',q3, ?_⟩;generalize f_.map fo=KK at*;generalize fQ=Z at*;simp[b0,dh,l9,hw,s9,l8,a1,a2,l8',ln,aqr,cr,tka,stk];rw[ae gD.eq_1];simp[g,dh,l8R,q1,q2,ake,cC,ay,bA,aw]
theorem aer(l A B:List AV)(off:Nat)(h:off+(A.length+B.length)<=l.length):aL (aL l (off+A.length) B) off A=aL l off (A++B):=by
 have h1:=pE l (off+A.length) B (by omega);apply K3;intro k;rw[jZ _ _ _ (by omega),jZ _ _ _ (by omega),jZ _ _ _ (by rw[gP];omega),gP,adC];by_cases c1:off<=k/\k<off+A.length;·rw[if_pos c1,if_pos (by omega),if_pos (by omega)]
 ·rw[if_neg c1]
  by_cases c2:off+A.length<=k/\k<off+A.length+B.length
  ·rw[if_pos c2,if_pos (by omega),if_neg (by omega)]
   congr 1;omega
  ·rw[if_neg c2,if_neg (by omega)]
theorem Va(l:List AV)(off:Nat)(h:off<=l.length):aL l off []=l:=by simp[aL]
theorem aqj{T:St}{j:Nat}{b:cF}(h:T[j]? =some b):T.set j b=T:=by
 apply K3;intro k;rw[SY];by_cases e:j=k
 ·subst e
  rw[if_pos rfl,if_pos (fI.1 h).1,h]
 ·rw[if_neg e]
theorem anI{j off m cap nb:Nat}{bt:List (Option Nat)}:∀(k n:Nat)(cs:List AV)(T:St)(aa:List (Option Nat)),T[j]? =some (.mem cs bt false)->off+m<=cs.length->k<=m->m<1000000->n<18446744073709551616->
 DC ax nk (.loop mX) ⟨[(0,.aref j off m cap 1),(1,.int .u64 (n:Int)),(4,.int .i64 ((k:Int) -1))],aa,nb⟩ T=
  some (.exit 0,⟨[],aa,nb⟩,T.set j (.mem (aL cs off (aK (Fy k n))) bt false))
 |0,n,cs,T,aa,hT,hc,hk,hm,hn=>by
  have e:T.set j (.mem (aL cs off (aK (Fy 0 n))) bt false)=T:=by rw[show aK (Fy 0 n)=[]from rfl,Va _ _ (by omega)];exact aqj hT
  rw[e,aj,ak mX.eq_1];simp
 |k+1,n,cs,T,aa,hT,hc,hk,hm,hn=>by
  have hj:=(fI.1 hT).1;have ix:oa 1 (.aref j off m cap 1) (.int .i64 (k:Int))=some (.ptr j (off+k)):=by
   have:k<m:=by omega
   have h0:¬(k:Int)<0:=by omega
   simp[oa,this,h0]
  have st:bg aa nb T 1 (.ptr j (off+k)) (.int .u8 (IntKind.wrap .u8 (n:Int)))=some (aa,T.set j (.mem (aL cs (off+k) [gy (UInt8.ofNat n)]) bt false)):=by rw[fT (vH .u8 _) hT,if_pos ⟨rfl,by omega⟩];have:=cv8 n;simp only[Hr,jB,AV.int.injEq,true_and]at this;rw[this];rfl
  have sh:(n:Int).fdiv (2^min 8 IntKind.u64.bits)=(n:Int)/256:=abl _ (by decide);have ih:=anI (nb:=nb) (cap:=cap) k (n/256) (aL cs (off+k) [gy (UInt8.ofNat n)]) (T.set j (.mem (aL cs (off+k) [gy (UInt8.ofNat n)]) bt false)) aa (qK hj) (by rw[pE _ _ _ (by simp;omega)];exact hc) (by omega) hm (by omega);have e:aL (aL cs (off+k) [gy (UInt8.ofNat n)]) off (aK (Fy k (n/256)))=aL cs off (aK (Fy (k+1) n)):=by
   have hl:(aK (Fy k (n/256))).length=k:=by simp[BD]
   have:=aer cs (aK (Fy k (n/256))) [gy (UInt8.ofNat n)] off (by rw[hl];simp;omega);rw[hl]at this;rw[this,show Fy (k+1) n=Fy k (n/256)++[UInt8.ofNat n]from rfl];simp[aK]
  rw[Hu,e]at ih;have w1:IntKind.wrap .i64 ((k:Int) -1)=(k:Int) -1:=wrap64 (by omega);have c0:((k+1:Nat):Int) -1=k:=by omega
  have g0:(k:Int)≥0:=by omega
  rw[c0,aj,ak mX.eq_1];simp at ih;simp[ix,st,sh,w1];rw[ae mX.eq_1];simp[ih]
theorem ZX{j off m cap:Nat}{bt:List (Option Nat)}{cs:List AV}{T:St}(hT:T[j]? =some (.mem cs bt false))(hc:off+m<=cs.length)(hm:m<1000000)(n:Nat)(hn:n<18446744073709551616):
 DF ax nk 128 [.aref j off m cap 1,.int .u64 (n:Int)] T=some (.cT [],T.set j (.mem (aL cs off (aK (Fy m n))) bt false)):=by
 have h:=anI (nb:=T.length) (cap:=cap) m n cs T [] hT hc (eJ _) hm hn;have w1:IntKind.wrap .i64 ((m:Int) -1)=(m:Int) -1:=wrap64 (by omega);have tk:∀x,(T.set j x).take T.length=T.set j x:=fun x=>gO (by simp);rw[UA,ak EB.eq_1];simp[gj,w1];rw[ae mX.eq_1];simp[h,tk,cC,ay,bA,aw]
theorem acn(l A B:List AV)(h:A.length+B.length<=l.length):aL (aL l 0 A) A.length B=aL l 0 (A++B):=by
 have h1:=pE l 0 A (by omega);apply K3;intro k;rw[jZ _ _ _ (by omega),jZ _ _ _ (by omega),jZ _ _ _ (by rw[gP];omega),gP,adC];by_cases c1:A.length<=k/\k<A.length+B.length;·rw[if_pos c1,if_pos (by omega),if_neg (by omega),Nat.sub_zero]
 ·rw[if_neg c1]
  by_cases c2:k<A.length;·rw[if_pos (by omega),if_pos (by omega),if_pos (by omega)]
  ·rw[if_neg (by omega),if_neg (by omega)]
def Mp(v:V8)(i:Nat):bq:=(v.l.take i).flatMap fun x=>Fy 4 x.toNat
theorem aj5(v:V8)(i:Nat)(h:i<=8):(Mp v i).length=4*i:=by
 have fl:∀l:List UInt32,(l.flatMap fun x=>Fy 4 x.toNat).length=4*l.length:=by
  intro l;induction l with
  |nil=>rfl
  |cons a r ih=>rw[z6,gP,ih,BD,jC];omega
 rw[Mp,fl,LB,show v.l.length=8 from rfl,LR h]
theorem ag5(v:V8)(i:Nat)(h:i<8):Mp v i++Fy 4 (v.l.getD i 0).toNat=Mp v (i+1):=by unfold Mp;rw[sW,mc (show i<v.l.length from h)];simp
theorem ZY{S:St}(V:V8)(a b c:cF)(aa:List (Option Nat)):∀d i,i+d=8->
 DC ax nk (.loop fW) ⟨[(2,.ptr S.length 0),(4,.ptr (S.length+3) 0),(35,.agg V.ai),(36,.int .i64 (i:Nat))],aa,S.length⟩ (S++[a,b,c,.mem (aL aD 0 (aK (Mp V i))) [] false])=
  some (.exit 0,⟨[(2,.ptr S.length 0),(4,.ptr (S.length+3) 0)],aa,S.length⟩,S++[a,b,c,.mem (aK V.aW) [] false]):=by
 intro d;induction d with
 |zero=>
  intro i hi;have e:i=8:=by omega
  subst e;have e:Mp V 8=V.aW:=rfl;have vG:aL aD 0 (aK V.aW)=aK V.aW:=bX (by simp[V8.ZT]);rw[e,vG,aj,ak fW.eq_1];simp
 |succ d ih=>
  intro i hi;have h3:(i:Int)<8:=by omega
  have Zu:=aV (i:=i) (by omega);have hl:=aj5 V i (by omega);have kl:aD.length=32:=rfl;have hs:(aL aD 0 (aK (Mp V i))).length=32:=by rw[pE _ _ _ (by simp;omega)];exact kl
  have ix:af7 8 1 .cell (.agg V.ai) (.int .i64 (i:Int))=some (fo (V.l.getD i 0)):=by
   have:i<8:=by omega
   have h0:¬(i:Int)<0:=by omega
   unfold af7;simp only;rw[if_neg h0,CM,if_pos this,BI,V8.anJ];show(V.l.map fo)[i]? =_;rw[gx,mc (show i<V.l.length from this)];rfl
  have x32:=sQ (V.l.getD i 0);have nxt:=ih (i+1) (by omega);rw[<-ag5 V i (by omega)]at nxt;have e2:=acn aD (aK (Mp V i)) (aK (Fy 4 (V.l.getD i 0).toNat)) (by simp[BD];omega);rw[show(aK (Mp V i)).length=4*i by simp[hl],show aK (Mp V i)++aK (Fy 4 (V.l.getD i 0).toNat)=aK (Mp V i++Fy 4 (V.l.getD i 0).toNat)by simp[aK]]at e2;rw[<-e2]at nxt;generalize V.l.getD i 0=x at*;have pt:=ZX (T:=S++[a,b,c,.mem (aL aD 0 (aK (Mp V i))) [] false]) (j:=S.length+3) (off:=4*i) (m:=4) (cap:=32 -4*i) (get_at S _ 3) (by omega) (by omega) x.toNat (by omega);rw[qW S _ 3]at pt;have cv:Hr .u64 (fo x)=some (.int .u64 (x.toNat:Int)):=by show some (AV.int .u64 (IntKind.wrap .u64 ((x.toNat:Nat):Int)))=_;rw[Wt,jG (by omega)]
  obtain⟨A,hA⟩:∃A:Int,A=((4*i:Nat):Int):=⟨_,rfl⟩;obtain⟨B,hB⟩:∃B:Int,B=((4*i+4:Nat):Int):=⟨_,rfl⟩;have w4:IntKind.wrap .i64 (4*(i:Int))=A:=by rw[wrap64 (by omega)];omega
  have w44:IntKind.wrap .i64 (A+4)=B:=by rw[wrap64 (by omega)];omega
  have sl:xD 32 1 (.ptr (S.length+3) 0) (some (.int .i64 A)) (some (.int .i64 B))=some (.aref (S.length+3) (4*i) 4 (32 -4*i) 1):=by
   have n32:¬32=4*i:=by omega
   have e4:4*i+4 -4*i=4:=by omega
   unfold xD;simp only[aav];rw[if_pos ⟨by omega,by omega⟩];simp only;rw[if_pos ⟨by omega,by omega⟩];simp only[hA,hB,CM];rw[if_neg (by omega),if_neg n32,e4];simp
  simp only[List.set_cons_succ,M4]at pt;generalize aL aD 0 (aK (Mp V i))=Z at*;have ra:∀i o l c z,BH (.aref i o l c z)=some (.aref i o l c z):=fun _ _ _ _ _=>rfl;have nr:∀i o l c z,norm (.aref i o l c z)=.aref i o l c z:=fun _ _ _ _ _=>rfl;have ri:∀k n,BH (.int k n)=some (.int k n):=fun _ _=>rfl;rw[aj,ak fW.eq_1];simp at Zu nxt;simp[h3,ix,ra,ri,nr, -Hr,cv,w4,w44,sl,pt,b8,Zu, -af7];rw[ae fW.eq_1];simp[nxt]
theorem aj6(n:Nat):gC n≠[]:=by simp[gC]
theorem ZW{S:St}{j:Nat}{v:V8}{lv:AV}{n:Nat}{bt:List (Option Nat)}{l:bq}(hS:S[j]? =some (.mem (mD v lv (n:Int)) bt false))(hl:LOk j lv bt l)(hn:n<=1073741824)(h64:l.length<64):
 DF ax nk 78 [.ptr j 0] S=some (.agg (aK (U9 v l n)),S):=by
 have fl:=XQ n;have fne:=aj6 n;have aBF:(gC n).length<=72:=by simp[gC,BD];omega
 have hj:=(fI.1 hS).1;have c0:=N3 (S++[.mem aD [] false]);rw[fB,gP,List.length_singleton]at c0;have hS2:(S++[cF.mem aD [] false,cF.mem (mD ft .ah 0) [] false])[j]? =some (.mem (mD v lv (n:Int)) bt false):=cd _ hS;have l0:aY (S++[cF.mem aD [] false,cF.mem (mD ft .ah 0) [] false]) (.agg 8) (.ptr j 0)=some (.agg v.ai):=by rw[bd hS2];rfl
 have l8:aY (S++[cF.mem aD [] false,cF.mem (mD ft .ah 0) [] false]) .cell (.ptr j 8)=some lv:=by rw[bd hS2];rfl
 have l9:aY (S++[cF.mem aD [] false,cF.mem (mD ft .ah 0) [] false]) .cell (.ptr j 9)=some (.int .i64 (n:Int)):=by rw[bd hS2];rfl
 obtain⟨x,t1,t2,lv2,bt2,a1,a2,a3,a4⟩:∃x t1 t2 lv2 bt2,cb 1 [] (S++[cF.mem aD [] false,cF.mem (mD ft .ah 0) [] false]) .ah lv=some (x,t1,S++[cF.mem aD [] false,cF.mem (mD ft .ah 0) [] false])/\
  LL wU [(0,8,.agg v.ai),(8,1,x),(9,1,.int .i64 (n:Int))]=some (mD v x (n:Int))/\
  zQ 10 t1 (S++[cF.mem aD [] false,cF.mem (mD ft .ah 0) [] false]) (.iC (mD v x (n:Int)))=some (.ptr (S.length+2) 0,t2,S++[cF.mem aD [] false,cF.mem (mD ft .ah 0) [] false,.mem (mD v lv2 (n:Int)) bt2 false])/\LOk (S.length+2) lv2 bt2 l:=by
  have e2:∀b:cF,S++[cF.mem aD [] false,cF.mem (mD ft .ah 0) [] false]++[b]=S++[cF.mem aD [] false,cF.mem (mD ft .ah 0) [] false,b]:=fun b=>by simp
  have el:(S++[cF.mem aD [] false,cF.mem (mD ft .ah 0) [] false]).length=S.length+2:=by simp
  rcases hl with⟨rfl,rfl⟩|⟨h1,k,rfl,h2⟩
  ·refine⟨.ah,[],[],.ah,[],by simp[cb,bL],rfl, ?_,.inl ⟨rfl,rfl⟩⟩
   unfold zQ;simp only;rw[if_pos ⟨rfl,rfl⟩,el,e2];rfl
  ·have Vq:¬bW l=[]:=fun e=>h1 ((kN _).1 e)
   have hle:l.length<=1073741824:=by omega
   refine⟨.sl (.fr 0) 1 (bW l),[some l.length],[none],.sl (.bx (S.length+2) 0) 1 (bW l),[some l.length],by simp[cb,bL,h1,hle],rfl, ?_,.inr ⟨h1,0,rfl,rfl⟩⟩;have g:(S++[cF.mem aD [] false,cF.mem (mD ft .ah 0) [] false,.mem ((mD v (.sl (.fr 0) 1 (bW l)) (n:Int)).map aB) [] false])[S.length+2]? =some (.mem ((mD v (.sl (.fr 0) 1 (bW l)) (n:Int)).map aB) [] false):=get_at S _ 2;have rb:dU [some l.length] (S.length+2) [] (.sl (.fr 0) 1 (bW l))=(.sl (.bx (S.length+2) 0) 1 (bW l),[none],[some l.length]):=by simp[dU]
   have rc:iy (S.length+2) 0 (mD v (.sl (.fr 0) 1 (bW l)) (n:Int)) [some l.length] (S++[cF.mem aD [] false,cF.mem (mD ft .ah 0) [] false,.mem ((mD v (.sl (.fr 0) 1 (bW l)) (n:Int)).map aB) [] false])=
    ([none],S++[cF.mem aD [] false,cF.mem (mD ft .ah 0) [] false,.mem (mD v (.sl (.bx (S.length+2) 0) 1 (bW l)) (n:Int)) [some l.length] false]):=by
    have s:=qW S [cF.mem aD [] false,cF.mem (mD ft .ah 0) [] false,.mem ((mD v (.sl (.fr 0) 1 (bW l)) (n:Int)).map aB) [] false] 2 (.mem (mD v (.sl (.bx (S.length+2) 0) 1 (bW l)) (n:Int)) [some l.length] false);show(match(S++[cF.mem aD [] false,cF.mem (mD ft .ah 0) [] false,.mem ((mD v (.sl (.fr 0) 1 (bW l)) (n:Int)).map aB) [] false])[S.length+2]? with
     |some (.mem cs bt false)=>match dU [some l.length] (S.length+2) bt (.sl (.fr 0) 1 (bW l))with
      |(v',aG,bt')=>iy (S.length+2) 9 [.int .i64 (n:Int)] aG ((S++[cF.mem aD [] false,cF.mem (mD ft .ah 0) [] false,.mem ((mD v (.sl (.fr 0) 1 (bW l)) (n:Int)).map aB) [] false]).set (S.length+2) (.mem (aL cs 8 v'.cells) bt' false))
     |_=>([some l.length],_))=_
    rw[g];simp only[rb];exact congrArg (Prod.mk [none]) s
   unfold zQ;simp only;rw[if_pos ⟨rfl,rfl⟩,el,e2,rc]
 have l9':aY (S++[cF.mem aD [] false,cF.mem (mD ft .ah 0) [] false,.mem (mD v lv2 (n:Int)) bt2 false]) .cell (.ptr (S.length+2) 9)=some (.int .i64 (n:Int)):=by rw[bd (get_at S _ 2)];rfl
 have fp:∀T,Lw [.int .i64 (n:Int),.int .i64 64,.int .i64 8] T=some (bO (gC n),T):=fun T=>by
  have e:bO (gC n)=.sl .none 1 ((gC n).map fun c=>[.int .u8 c.toNat]):=by
   cases h:gC n with
   |nil=>exact absurd h fne
   |cons a r=>rfl
  unfold Lw;rw[e];simp only;rw[if_pos ⟨by omega,by omega⟩,CM]
 obtain⟨lv3,bt3,b1,b2⟩:=Jx (S:=S++[cF.mem aD [] false,cF.mem (mD ft .ah 0) [] false,.mem (mD v lv2 (n:Int)) bt2 false]) (get_at S _ 2) a4 (gC n) (by omega) (by omega);rw[qW S _ 2]at b2;have e3:∀b c:cF,(S++[cF.mem aD [] false,cF.mem (mD ft .ah 0) [] false,b]++[c])=S++[cF.mem aD [] false,cF.mem (mD ft .ah 0) [] false,b,c]:=fun b c=>by simp
 simp only[List.set_cons_succ,M4]at b2;have sb:U9 v l n=(vE ((l++gC n).length/64) v (l++gC n)).aW:=rfl;rw[sb];generalize vE ((l++gC n).length/64) v (l++gC n)=V at*;generalize((n+(gC n).length:Nat):Int)=N at*;have hL:∀b c,DC ax nk (.loop fW) ⟨[(2,.ptr S.length 0),(4,.ptr (S.length+3) 0),(35,.agg V.ai),(36,.int .i64 0)],t2,S.length⟩ (S++[cF.mem aD [] false,b,c,.mem aD [] false])=
  some (.exit 0,⟨[(2,.ptr S.length 0),(4,.ptr (S.length+3) 0)],t2,S.length⟩,S++[cF.mem aD [] false,b,c,.mem (aK V.aW) [] false]):=fun b c=>by
  have:=ZY (S:=S) V (.mem aD [] false) b c t2 8 0 rfl;rwa [show aL aD 0 (aK (Mp V 0))=aD from Va _ 0 (by decide)]at this
 have ho:=V8.ZT V;have dl:j1 (aK V.aW):=cH _;have hlen:(aK V.aW).length=32:=by simp[ho]
 generalize aK V.aW=s at*;have ld2:∀a b d,aY (S++[a,b,.mem (mD V lv3 N) bt3 false,d]) (.agg 8) (.ptr (S.length+2) 0)=some (.agg V.ai):=fun a b d=>by rw[bd (get_at S _ 2)];rfl
 have ld3:∀a b c,aY (S++[a,b,c,.mem s [] false]) (.agg 32) (.ptr (S.length+3) 0)=some (.agg s):=fun a b c=>by rw[bd (get_at S _ 3)];exact(cP _ hlen).trans (by rw[dl.dN])
 have ld0:∀l,aY (S++.mem s [] false::l) (.agg 32) (.ptr S.length 0)=some (.agg s):=fun l=>by rw[lT0 (S:=S) rfl];exact(cP _ hlen).trans (by rw[dl.dN])
 have vG:aL aD 0 s=s:=bX (by rw[hlen];rfl)
 have rs:∀aa G,cC 78 aa [.agg s] S (S++G)=some (.agg s,S):=fun aa G=>by
  have nr:bD (.agg s)=.agg s:=by show AV.agg (s.map cY)=_;rw[dl.kU]
  rw[lL,nr];simp[bu,dl]
 have st:∀aa l,bg aa S.length (S++.mem aD [] false::l) 32 (.ptr S.length 0) (.agg s)=some (aa,S++.mem s [] false::l):=fun aa l=>by have:=uO (S:=S) rfl dl.aS (.mem aD [] false::l) 0 aa S.length 32;simp only[v_,M4,vG]at this;exact this.trans (if_pos ⟨hlen,by decide⟩)
 have tq:∀aa i o,aT aa (.ptr i o)=(.ptr i o,aa):=fun _ _ _=>rfl;have tkB:∀aa,aT aa (bO (gC n))=(bO (gC n),aa):=fun aa=>by cases gC n<;>rfl
 have b0:∀i o,du .neq .ptr true (.ptr i o) .kF=some (.bool true):=fun _ _=>rfl;have dB:=z9 (gC n);have pf:nk.rP 127=some Lw:=rfl;generalize bO (gC n)=F at*;generalize hKZ:wU=KZ at*;generalize hKY:aD=KY at*;rw[GM,ak rB.eq_1,hKZ,hKY];simp at c0 b2;have lb:∀lo hi K v ls n x g,ldV lo hi K v ls (.box n x) g=ls:=fun _ _ _ _ _ _ _ g=>by cases g with|none=>rfl|some b=>cases b<;>rfl
 simp[c0,tq,b0,dh,l0,l8,l9,a1,a2,a3,l9',lb,pf,fp,dB.Xo,b2,b8,e3,ld2];rw[ae fW.eq_1];simp[hL,ld3,st,ld0,rs]
theorem RC(b:bq)(hb:b.length<=1000000000)(S:St):DF ax nk 36 [.sl .none 1 [[bO b]]] S=some (.agg (aK (sum256 b)),S):=by
 have hs:=Ae b;have c0:=N3 (S++[.mem aD [] false]);have hT:(S++[.mem aD [] false]++[.mem (mD ft .ah 0) [] false])[S.length+1]? =some (.mem (mD ft .ah ((0:Nat):Int)) [] false):=by rw[fB];exact get_at S _ 1
 obtain⟨lv,bt,w1,w2⟩:=Jx (l:=[]) hT (.inl ⟨rfl,rfl⟩) b (by simp;omega) (by omega);have ax0:∀x,(S++[cF.mem aD [] false]++[cF.mem (mD ft .ah 0) [] false]).set (S.length+1) x=S++[cF.mem aD [] false,x]:=fun x=>by rw[fB];exact qW S _ 1 x
 rw[ax0,yu,yo]at w2;rw[yu]at w1;have g1:(S++[.mem aD [] false,.mem (mD (vE (b.length/64) ft b) lv (b.length:Int)) bt false])[S.length+1]? =some (.mem (mD (vE (b.length/64) ft b) lv (b.length:Int)) bt false):=get_at S _ 1;have sp:=ZW g1 w1 (by omega) (by rw[Cz];omega);rw[amr,show U9 ft b b.length=sum256 b from rfl]at sp;have dl:j1 (aK (sum256 b)):=cH _;have hlen:(aK (sum256 b)).length=32:=by simp[hs]
 generalize mD (vE (b.length/64) ft b) lv (b.length:Int)=C at*;generalize hX:mD ft .ah 0=X at*;generalize aK (sum256 b)=s at*;have st:=fun aa=>uO (S:=S) rfl dl.aS [.mem aD [] false,.mem C bt false] 0 aa S.length 32;have ld2:aY (S++[.mem s [] false,.mem C bt false]) (.agg 32) (.ptr S.length 0)=some (.agg s):=by rw[lT0 (S:=S) rfl];exact(cP _ hlen).trans (by rw[dl.dN])
 have vG:aL aD 0 s=s:=bX (by rw[hlen];rfl)
 have rs:∀aa G,cC 36 aa [.agg s] S (S++G)=some (.agg s,S):=fun aa G=>by
  have nr:bD (.agg s)=.agg s:=by show AV.agg (s.map cY)=_;rw[dl.kU]
  rw[lL,nr];simp[bu,dl]
 simp only[v_,M4]at st;simp only[vG]at st;have st:=fun aa=>(st aa).trans (if_pos ⟨hlen,by decide⟩);have ll:gj (.sl .none 1 [[bO b]])=some (.int .i64 1):=rfl;have ix:oa 1 (.sl .none 1 [[bO b]]) (.int .i64 0)=some (.ec .none [bO b] 0):=rfl;have ldr:∀T,aY T .cell (.ec .none [bO b] 0)=some (bO b):=fun _=>rfl;have tq:∀aa i o,aT aa (.ptr i o)=(.ptr i o,aa):=fun _ _ _=>rfl;have tka:aT [] (.agg s)=(.agg s,[]):=rfl;have w11:IntKind.wrap .i64 1=1:=rfl;have dB:=z9 b;generalize bO b=B at*;generalize hR:AV.sl .none 1 [[B]]=RB at*;rw[NI,ak xM.eq_1];simp at c0 w2;simp[c0,tq,ll];rw[ae lY.eq_1];simp;rw[aj,ak lY.eq_1];simp[ix,ldr,dB.Xo,w2,b8,w11];rw[ae lY.eq_1];simp;rw[aj,ak lY.eq_1];simp[sp,tka,st,ld2,rs]
theorem Y6(b:bq)(hb:b.length<=1000000000)(S:St):DF ax nk 14 [bO b] S=some (.agg (aK (sum256 b)),S):=by
 have hs:=Ae b;have c1:=RC b hb (S++[.mem aD [] false]);have dl:j1 (aK (sum256 b)):=cH _;have hlen:(aK (sum256 b)).length=32:=by simp[hs]
 generalize aK (sum256 b)=s at*;have bo:e_ 1 [[AV.ah]] [(0,bO b)]=some [[bO b]]:=by
  cases b with
  |nil=>rfl
  |cons a r=>rfl
 have dB:=z9 b;have nB:norm (.sl .exact 1 [[bO b]])=.sl .none 1 [[bO b]]:=rfl;have gB:∀T,bN T (.sl .exact 1 [[bO b]])=some (.sl .exact 1 [[bO b]]):=fun _=>rfl;have lB:∀T,cg T (.sl .exact 1 [[bO b]])=T:=fun _=>rfl;have uB:∀T T',bB T T' (.sl .exact 1 [[bO b]])=T':=fun _ _=>rfl;generalize bO b=B at*;have st:=fun aa=>uO (S:=S) rfl dl.aS [.mem aD [] false] 0 aa S.length 32;have ld2:aY (S++[.mem s [] false]) (.agg 32) (.ptr S.length 0)=some (.agg s):=by rw[lT0 (S:=S) rfl];exact(cP _ hlen).trans (by rw[dl.dN])
 have vG:aL aD 0 s=s:=bX (by rw[hlen];rfl)
 have rs:∀aa G,cC 14 aa [.agg s] S (S++G)=some (.agg s,S):=fun aa G=>by
  have nr:bD (.agg s)=.agg s:=by show AV.agg (s.map cY)=_;rw[dl.kU]
  rw[lL,nr];simp[bu,dl]
 simp only[v_,M4]at st;simp only[vG]at st;have st:=fun aa=>(st aa).trans (if_pos ⟨hlen,by decide⟩);have tka:aT [] (.agg s)=(.agg s,[]):=rfl;rw[Ur,ak En.eq_1];simp at c1;simp[bo,nB,gB,lB,uB,dW,dj,c1,tka,st,ld2,rs]
theorem ad0(b:bq)(hb:b.length<100000000)(S:St):DF ax nk 15 [bO b] S=some (.agg (aK (sum256 b)),S):=by
 have hs:=Ae b;have c1:=acj b hb (S++[.mem aD [] false]);have dl:j1 (aK (sum256 b)):=cH _;have hlen:(aK (sum256 b)).length=32:=by simp[hs]
 generalize aK (sum256 b)=s at*;have dB:=z9 b;generalize bO b=B at*;have st:=fun aa=>uO (S:=S) rfl dl.aS [.mem aD [] false] 0 aa S.length 32;have ld2:aY (S++[.mem s [] false]) (.agg 32) (.ptr S.length 0)=some (.agg s):=by rw[lT0 (S:=S) rfl];exact(cP _ hlen).trans (by rw[dl.dN])
 have vG:aL aD 0 s=s:=bX (by rw[hlen];rfl)
 have rs:∀aa G,cC 15 aa [.agg s] S (S++G)=some (.agg s,S):=fun aa G=>by
  have nr:bD (.agg s)=.agg s:=by show AV.agg (s.map cY)=_;rw[dl.kU]
  rw[lL,nr];simp[bu,dl]
 simp only[v_,M4]at st;simp only[vG]at st;have st:=fun aa=>(st aa).trans (if_pos ⟨hlen,by decide⟩);have tka:aT [] (.agg s)=(.agg s,[]):=rfl;rw[GK,ak rq.eq_1];simp at c1;simp[dB.Xo,c1,tka,st,ld2,rs]
theorem alx:(fun a=>zo ax nk 1000 5 [] [a])=fun a=>some (.bool true,[a]):=by kernel_rfl
theorem aly:(fun a b=>zo ax nk 1000 5 [] [a,b])=fun a b=>some (.bool true,[a,b]):=by kernel_rfl
theorem aiz(a:cF):DF ax nk 5 [] [a]=some (.bool true,[a]):=(JJ _).2 ⟨1000,congrFun alx a⟩
theorem aiA(a b:cF):DF ax nk 5 [] [a,b]=some (.bool true,[a,b]):=(JJ _).2 ⟨1000,congrFun (congrFun aly a) b⟩
theorem yF(n:Int)(S:St):DF ax nk 8 [.iL 62 (.int .i64 n)] S=some (.int .i64 n,S):=by rw[F5,ak rj.eq_1];simp[du,kS,asP,adZ,aaq,aB,bN,cg,bB,na,aT,cA]
theorem QS(e:aaf)(he:e.Wf)(S:St)(w1:DF ax nk 5 [] (S++[.mem e.ai [] false])=some (.bool true,S++[.mem e.ai [] false]))
 (w2:∀b,DF ax nk 5 [] (S++[.mem e.ai [] false,b])=some (.bool true,S++[.mem e.ai [] false,b])):DF ax nk 3 [.agg e.ai] S=some (.bool true,S):=by
 have A:=he.toOk;obtain⟨g,c0,hg⟩:=HN e he (S++[.mem e.ai [] false]);rw[wo,ak ki.eq_1];cases g;rotate_left;·simp[A,c0,w1]
 have hf:=hg rfl;have e1:A0 1=.iL 62 (.int .i64 1):=rfl;have e3:A0 3=.iL 62 (.int .i64 3):=rfl;have c1:=HU e he (S++[.mem e.ai [] false]);have c2:=HK e he hf (S++[.mem e.ai [] false]);have tk:=JN e.cO e.bytes e.gp;have cR:=VP e he;have ln0:gj .ah=some (.int .i64 0):=rfl;have gi:∀T n,bN T (.iL 62 (.int .i64 n))=some (.iL 62 (.int .i64 n)):=fun _ _=>rfl;rcases(show e.cO=false\/e.cO=true by cases e.cO<;>simp)with hs|hs
 ·rw[hs]at c1 c2 tk cR
  rw[if_neg (by simp),e1]at tk;have cc:=yF 1 (S++[.mem e.ai [] false]);have cR1:=cR (S++[.mem e.ai [] false]);simp at cR1;simp[nm,A,c0,c1,tk,c2,bF,cc,ln0,cR1,w1]
 rw[hs]at c1 c2 tk cR;rw[if_pos rfl]at tk;have bl:e.od.length<=1000000000:=by
  have hs':=hs;unfold aaf.cO at hs';simp only[dk,P1,decide_eq_true_eq]at hs';obtain⟨⟨h4,_⟩,hk⟩:=hs';have AX:=OT A;have hnl:(bI e.az.length).length=1:=by
   have:e.az.length<128:=by omega
   rw[bI,if_pos this];rfl
  have pl:e.part.length<=149000500:=by
   rcases hk with⟨k,h,_⟩|⟨k,h,_⟩
   ·have:=Y5 he.op h
    unfold aaf.part;rw[if_pos k];omega
   ·have:=bn.rR 5 e.lens he.lens h
    unfold aaf.part;rw[if_neg (by omega)];omega
  unfold aaf.od;simp only[jC,gP,A.aP,A.key,hnl,AX];omega
 obtain⟨r,r1,r2⟩:=abH e he hs bl (S++[.mem e.ai [] false]);by_cases hl:4096<e.bytes.length
 ·rw[if_pos hl,e3]at tk
  obtain⟨o,t,a1,a2⟩:=r1.1.take [];have lo:=g7.len a2;rw[lR]at lo;have tC:(4096:Int)<(e.bytes.length:Int):=by omega
  have cc:=yF 3 (S++[.mem e.ai [] false]);have cR1:=cR (S++[.mem e.ai [] false]);rw[decide_eq_false (by omega)]at cR1;simp at cR1;simp[nq,A,c0,c1,tk,c2,bF,r2,a1,lo,tC,cc,ln0,cR1,w1]
 ·rw[if_neg hl]at tk
  obtain⟨o,t,a1,a2⟩:=r1.1.take [some e.bytes.length];have lo:=g7.len a2;rw[lR]at lo;have tC:¬(4096:Int)<(e.bytes.length:Int):=by omega
  have cD:=agx e he hs (by omega) (S++[.mem e.ai [] false]);have tkD:∀t,aT t (.cT [.agg e.ai,.bP])=(.cT [.agg e.ai,.bP],t):=fun _=>rfl;have nz:=e.gp;have gf:∀T,bN T (.sl (.fr 0) 1 (bW e.bytes))=some (.sl .none 1 (bW e.bytes)):=fun _=>rfl;have lf:∀T,cg T (.sl (.fr 0) 1 (bW e.bytes))=T:=fun _=>rfl;have uf:∀T T',bB T T' (.sl (.fr 0) 1 (bW e.bytes))=T':=fun _ _=>rfl
  have nf':norm (.sl .none 1 (bW e.bytes))=bO e.bytes:=by cases h:e.bytes with
   |nil=>exact absurd h nz
   |cons a q=>rfl
  have go:=g7.aiC a2;have no:norm (aB o)=bO e.bytes:=g7.norm a2;have lk:=g7.lock a2;have ul:=g7.unlock a2;have cB:=abJ e.bytes e.bytes (by omega);have cS:=J4 e e he.small he.small;have ess:same e e=true:=ags e;rw[ess]at cS;have cN:=Y6 e.bytes (by omega);have cM:=ad0 e.bytes (by omega);have hsl:=Ae e.bytes;have b1:du .eql (.iL ff) true .bP .bP=some (.bool true):=rfl;have cR2:(decide (e.bytes.length<=4096))=true:=decide_eq_true (by omega);rw[cR2]at cR;have st:∀aa,bg aa S.length (S++[.mem e.ai [] false,.mem jk [] false]) 160 (.ptr (S.length+1) 0) (.agg e.ai)=some (aa,S++[.mem e.ai [] false,.mem e.ai [] false]):=fun aa=>by rw[TG (S:=S) rfl (aaf.fJ e).aS];simp only[v_,Xh];have zl:jk.length=160:=rfl;rw[if_pos ⟨by simp[A],by rw[zl];omega⟩,bX (by rw[zl];simp[A])];rfl
  generalize sum256 e.bytes=s at*;simp at cR cB;simp[nu,A,c0,c1,tk,c2,bF,r2,a1,lo,tC,gf,lf,uf,nf',dW,dj,cD,tkD,st,b1,go,no,lk,ul,cB,cR,cS,cN,cM,hsl,w2]
theorem TS(e:aaf)(he:e.Wf):DF ax nk 3 [.agg e.ai] []=some (.bool true,[]):=
 QS e he [] (aiz _) (fun b=>aiA _ b)
end Go.Proofs.YtampclodiifalaaGreatDoor.am
namespace Go.Proofs.YtampclodiifalaaGreatDoor.entryEncodes
open Go Go.RowKit Go.ChangeShapes Go.Proofs.YtampclodiifalaaGreatDoor.am
theorem own:ownKnob Tryz.prog.godebug=none:=by kernel_rfl
theorem laidOut:laidOutB Tryz.prog=true:=by kernel_rfl
theorem mixed:Tryz.prog.follows .mixedOrders=true:=by kernel_rfl
theorem aU:Tryz.prog.funcs.all (fun fn=> !(fn.name== "runtime.NumGoroutine"))=true:=by kernel_rfl
theorem named:Cw Tryz.prog:=by intro f fn h;have:=Array.all_eq_true.1 aU f (MH.1 h).1;rw[(MH.1 h).2]at this;simpa using this
set_option maxRecDepth 100000 in
theorem ajb(H:Type)(ai:TypeId × Value->H)(W:World)(base:Nat)(args:Array Value)(ds gs:List (DataW H))(before:List MemPlace)
 (BL:∀(j:Nat) t v,Tryz.f3.params[j]? =some t->args[j]? =some v->Value.okWide Tryz.prog W .any base t v)
 (hW:DataW.Whole ai Tryz.prog Tryz.f3.params.toList Rows.entryEncodesSpec.vars false W args.toList ds gs before) (hX:laidMetH Tryz.prog laidB W):
 Calls Tryz.prog 3 args W fun e W'=>∃v,e=.returned v/\Rows.entryEncodesSpec.post ai Tryz.prog Tryz.f3 false true false false W args v W':=by
 have hW':=hW;obtain⟨p,q,hA0,hV,rfl,hfz,hnd⟩:=hW;have hA:DataW.TrodAll ai Tryz.prog W 0 (fun _=>true) true Tryz.f3.params.toList args.toList ds p:=hA0;rw[Tryz.params3]at hA BL;obtain⟨v0,d0,rfl,hds,n0,h0⟩:=trodAll_one hA;obtain⟨a,ha,ra⟩:=ajc n0 _ _ h0;have c0:∃cs,v0=.agg cs:=agA Tryz.underlying45 (BL 0 45 v0 (by simp) (by simp));obtain⟨Vx,rfl⟩:=c0;have ra:zy W a.ai Vx.toList:=ra;subst hds;refine(agz (nk:=nk) mixed named atU apI (TS a ha) (W:=W) (atV hX) (args:= #[.agg Vx]) (by simp) rfl (fun j x hj=>?_)).mono fun e W' h=>?_
 ·match j,hj with
  |0,hj=>simp at hj;subst hj;exact⟨_,rfl,RVd.agg ra⟩
  |j+1,hj=>simp at hj
 ·obtain⟨rfl,hbl⟩:=h
  refine⟨_,rfl,ai1 (tb:=4) laidOut (by rw[Tryz.params3];intro t ht;simp at ht;subst ht;exact⟨by kernel_rfl,of_decide_eq_true (by kernel_rfl)⟩) rfl (by kernel_rfl) Tryz.underlying4 (fun e=>?_) hW' hbl⟩;subst e;rfl
set_option maxRecDepth 100000 in
theorem lifted(os:Os)(started:os.Started)(H:Type)(ai:TypeId × Value->H):
 ReturnsInHanded {} Tryz.checked os 3 .any (fun w args=>(Rows.entryEncodesSpec.pre ai Tryz.prog Tryz.f3 [] false w args/\laidMetH Tryz.prog laidB w)/\sizedMet ai Tryz.prog Tryz.f3 (OpenSpec.ofChange Rows.entryEncodesSpec) false w args)
  (Rows.entryEncodesSpec.post ai Tryz.prog Tryz.f3 false true false false):=by
 refine returnsInHanded_of_change_and (C:=Tryz.checked) (X:=fun w _=>laidMetH Tryz.prog laidB w) (fun _ _ _ hh h=>h.of_heap hh) own started (by kernel_rfl) Tryz.func3
  (ChangeSpec.witness_at (enc:=ai) (C:=Tryz.checked) (os:=os) (X:=fun w _=>laidMetH Tryz.prog laidB w) false (O6 os)
   #[.agg (#[.int .i64 0]++Array.replicate 32 (.int .u8 0)++ #[.slice none 0 0]++ #[.int .i64 0,.slice none 0 0,.int .u64 0,.int .u64 0,.int .i64 0,.int .i64 0,.string ⟨#[]⟩,.slice none 0 0,.slice none 0 0,.slice none 0 0]++
    #[.int .i64 0,.string ⟨#[]⟩,.string ⟨#[]⟩,.int .i64 0,.slice none 0 0,.slice none 0 0,.int .i64 0,.int .i64 0,.string ⟨#[]⟩,.slice none 0 0,.slice none 0 0,.slice none 0 0,.int .i64 0,.int .i64 0,.string ⟨#[]⟩,.slice none 0 0,.slice none 0 0,.slice none 0 0,.slice none 0 0,.slice none 0 0]++
    Array.replicate 96 (.int .u8 0))] 8 rfl (by kernel_rfl) (by kernel_rfl) (by kernel_rfl) (by kernel_rfl) (by kernel_rfl) (abN os _)) ?_
 intro W base args ds gs before BL hW _ _ hL _;exact ajb H ai W base args ds gs before BL hW hL
theorem O7:Rows.EntryEncodesSaid:=
 OpenClaim.holds_of_wide 3 Tryz.f3 rfl rfl rfl rfl rfl rfl rfl ⟨rfl,rfl,rfl,rfl,rfl⟩ rfl rfl rfl rfl rfl (by kernel_rfl) Tryz.func3 (by kernel_rfl)
  (of_decide_eq_true (by kernel_rfl)) (by unfold Func.isWrapper;first|(rw[if_pos (by decide+kernel)];kernel_rfl)|(rw[if_neg (by decide+kernel)];exact⟨rfl,rfl⟩))
  (fun os started H ai _=>lifted os started H ai)
theorem entryEncodes_holds:Rows.EntryEncodesCardSaid:=
 Claim7.holds_tied_plain_at .later [] [.handle] true (true,"c5aec2146443dd04dc77fd1fe93b307510eb545b94fd3b10d27e0a80fb0a3c29") true
  O7 (fun _ h=>by cases h) (by kernel_rfl) (fun _ h=>by cases h) entryEncodes_row_tie rfl ⟨rfl,rfl⟩ (by kernel_rfl) rfl
  (fun f fn hf hfn=>by
   obtain rfl:f=3:=eL ((show Tryz.prog.funcNamed "dioptre/dioptrelaw17.EntryEncodes" =some 3 by kernel_rfl).symm.trans hf)|>.symm;obtain rfl:fn=Tryz.f3:=(eL (Tryz.func3.symm.trans hfn)).symm
   exact⟨by kernel_rfl,fun j t ht=>by
    rw[Tryz.params3]at ht;have h3:t=45:=by
     rcases j with _|j;·simpa using ht.symm
     ·simp at ht
    subst h3;exact(show Tryz.prog.wantsStandIn 45=false by kernel_rfl)⟩)
  (by kernel_rfl)
end Go.Proofs.YtampclodiifalaaGreatDoor.entryEncodes
