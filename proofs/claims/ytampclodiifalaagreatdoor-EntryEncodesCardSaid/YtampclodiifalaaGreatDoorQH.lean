/- Parts. No condition. -/
import Derived.Test.YtampclodiifalaaGreatDoorQG
set_option linter.all false
namespace Go.Proofs.YtampclodiifalaaGreatDoor.am
open Go
@[simp low]theorem aw_(f:FuncId):nk.rP f=if f=25 then some ((asP 69 62))else if f=127 then some (Lw)else none:=by
 simp only[nk,aje,List.lookup];repeat' split
 all_goals simp_all
theorem CQ(n:Nat)(l m:List dK)(hl:l.length=n)(hm:m.length=n)(hb:n<9223372036854775808)(nb:Nat)(S:St):∀d i,i+d=n->
 DC ax nk (.loop fD) ⟨[(0,eD l),(1,eD m),(12,.int .i64 n),(13,.int .i64 i)],[],nb⟩ S=if l.drop i=m.drop i then some (.exit 0,⟨[],[],nb⟩,S)else some (.ret,⟨[(4,.bool false)],[],nb⟩,S):=by
 intro d;induction d with
 |zero=>
  intro i hi;rw[aj,ak fD.eq_1];have h3:l.drop i=[]:=dV (by omega);have h4:m.drop i=[]:=dV (by omega);have h5:¬i<n:=by omega
  simp[h3,h4,h5]
 |succ d ih=>
  intro i hi;have h3:i<n:=by omega
  rw[aj,ak fD.eq_1];obtain⟨x,hx⟩:=iN (l:=l) (i:=i) (by omega);obtain⟨y,hy⟩:=iN (l:=m) (i:=i) (by omega);rw[aJ hx,aJ hy];have hn:=ih (i+1) (by omega);have hw:=aV (i:=i) (by omega);simp at hn hw;cases he:same x y
  ·have:=fc.1 he
   simp[h3,hx,hy,he,this]
  ·obtain rfl:=mR.1 he
   simp[h3,hx,hy];rw[ae fD.eq_1];simp[hw,hn]
theorem CR(l m:List dK)(hb:l.length<9223372036854775808)(Cn:m.length<9223372036854775808)(S:St):DF ax nk 92 [eD l,eD m] S=some (.bool (same l m),S):=by
 rw[AZ,ak mT.eq_1];by_cases hl:m.length=l.length
 ·have:=CQ l.length l m rfl hl hb S.length S l.length 0 (by omega)
  simp at this;simp[hl];rw[ae fD.eq_1];simp[this];by_cases e:l=m;·subst e;simp
  ·simp[e,fc.2 e]
 ·have e:l≠m:=fun e=>hl (by rw[e])
  have tC:¬l.length=m.length:=fun e=>hl e.symm;simp[tC,fc.2 e]
theorem FT(n:Nat)(l m:List bq)(hl:l.length=n)(hm:m.length=n)(hb:n<9223372036854775808)(nb:Nat)(S:St):∀d i,i+d=n->
 DC ax nk (.loop gz) ⟨[(0,cw l),(1,cw m),(12,.int .i64 n),(13,.int .i64 i)],[],nb⟩ S=if l.drop i=m.drop i then some (.exit 0,⟨[],[],nb⟩,S)else some (.ret,⟨[(4,.bool false)],[],nb⟩,S):=by
 intro d;induction d with
 |zero=>
  intro i hi;rw[aj,ak gz.eq_1];have h3:l.drop i=[]:=dV (by omega);have h4:m.drop i=[]:=dV (by omega);have h5:¬i<n:=by omega
  simp[h3,h4,h5]
 |succ d ih=>
  intro i hi;have h3:i<n:=by omega
  rw[aj,ak gz.eq_1];obtain⟨x,hx⟩:=iN (l:=l) (i:=i) (by omega);obtain⟨y,hy⟩:=iN (l:=m) (i:=i) (by omega);rw[aJ hx,aJ hy];have hn:=ih (i+1) (by omega);have hw:=aV (i:=i) (by omega);simp at hn hw;cases he:same x y
  ·have:=fc.1 he
   simp[h3,hx,hy,this]
  ·obtain rfl:=mR.1 he
   simp[h3,hx,hy];rw[ae gz.eq_1];simp[hw,hn]
theorem oB(l m:List bq)(hb:l.length<9223372036854775808)(Cn:m.length<9223372036854775808)(S:St):DF ax nk 135 [cw l,cw m] S=some (.bool (same l m),S):=by
 rw[CS,ak oC.eq_1];by_cases hl:m.length=l.length
 ·have:=FT l.length l m rfl hl hb S.length S l.length 0 (by omega)
  simp at this;simp[hl];rw[ae gz.eq_1];simp[this];by_cases e:l=m;·subst e;simp
  ·simp[e,fc.2 e]
 ·have e:l≠m:=fun e=>hl (by rw[e])
  have tC:¬l.length=m.length:=fun e=>hl e.symm;simp[tC,fc.2 e]
theorem FU(n:Nat)(l m:List Int)(hl:l.length=n)(hm:m.length=n)(hb:n<9223372036854775808)(nb:Nat)(S:St):∀d i,i+d=n->
 DC ax nk (.loop gA) ⟨[(0,jn l),(1,jn m),(12,.int .i64 n),(13,.int .i64 i)],[],nb⟩ S=if l.drop i=m.drop i then some (.exit 0,⟨[],[],nb⟩,S)else some (.ret,⟨[(4,.bool false)],[],nb⟩,S):=by
 intro d;induction d with
 |zero=>
  intro i hi;rw[aj,ak gA.eq_1];have h3:l.drop i=[]:=dV (by omega);have h4:m.drop i=[]:=dV (by omega);have h5:¬i<n:=by omega
  simp[h3,h4,h5]
 |succ d ih=>
  intro i hi;have h3:i<n:=by omega
  rw[aj,ak gA.eq_1];obtain⟨x,hx⟩:=iN (l:=l) (i:=i) (by omega);obtain⟨y,hy⟩:=iN (l:=m) (i:=i) (by omega);rw[aJ hx,aJ hy];have hn:=ih (i+1) (by omega);have hw:=aV (i:=i) (by omega);simp at hn hw;cases he:same x y
  ·have:=fc.1 he
   simp[h3,hx,hy,this]
  ·obtain rfl:=mR.1 he
   simp[h3,hx,hy];rw[ae gA.eq_1];simp[hw,hn]
theorem FV(l m:List Int)(hb:l.length<9223372036854775808)(Cn:m.length<9223372036854775808)(S:St):DF ax nk 136 [jn l,jn m] S=some (.bool (same l m),S):=by
 rw[CT,ak oD.eq_1];by_cases hl:m.length=l.length
 ·have:=FU l.length l m rfl hl hb S.length S l.length 0 (by omega)
  simp at this;simp[hl];rw[ae gA.eq_1];simp[this];by_cases e:l=m;·subst e;simp
  ·simp[e,fc.2 e]
 ·have e:l≠m:=fun e=>hl (by rw[e])
  have tC:¬l.length=m.length:=fun e=>hl e.symm;simp[tC,fc.2 e]
theorem xG(g:FuncId)(hg:nk.rP g=none)(mC:u9 g=false)(F:aX->aX->Bool)(n:Nat)(l m:List aX)(hl:l.length=n)(hm:m.length=n)(hb:n<9223372036854775808)(hF:∀x∈l,∀y∈m,∀S,DF ax nk g [.agg x.ai,.agg y.ai] S=some (.bool (F x y),S))(nb:Nat):∀d i,i+d=n->∀S,∃J,
 DC ax nk (.loop dO) ⟨[(1,lU m),(2,.fn g [] []),(15,lU l),(16,.int .i64 n),(17,.int .i64 i)],[],nb⟩ S=if qP F (l.drop i) (m.drop i)=true then some (.exit 0,⟨[],[],nb⟩,S++J)else some (.ret,⟨[(6,.bool false)],[],nb⟩,S++J):=by
 intro d;induction d with
 |zero=>
  intro i hi S;rw[aj,ak dO.eq_1];have h3:l.drop i=[]:=dV (by omega);have h4:m.drop i=[]:=dV (by omega);have h5:¬i<n:=by omega
  exact⟨[],by simp[h3,h4,h5,qP]⟩
 |succ d ih=>
  intro i hi S;have h3:i<n:=by omega
  rw[aj,ak dO.eq_1];obtain⟨x,hx⟩:=iN (l:=l) (i:=i) (by omega);obtain⟨y,hy⟩:=iN (l:=m) (i:=i) (by omega);rw[aJ hx,aJ hy];have hf:=hF x (eT hx) y (eT hy);obtain⟨J,hn⟩:=ih (i+1) (by omega) (S++[.mem x.ai [] false,.mem y.ai [] false]);have hw:=aV (i:=i) (by omega);simp at hn hw;refine⟨if F x y then[.mem x.ai [] false,.mem y.ai [] false]++J else[.mem x.ai [] false,.mem y.ai [] false], ?_⟩;cases he:F x y;·simp[h3,hx,hy,hf,he,qP,bF,hg,mC]
  ·simp[h3,hx,hy,hf,he,qP,bF,hg,mC]
   rw[ae dO.eq_1];simp[hw,hn]
theorem xH(g:FuncId)(hg:nk.rP g=none)(mC:u9 g=false)(F:aX->aX->Bool)(l m:List aX)(hb:l.length<9223372036854775808)(hF:∀x∈l,∀y∈m,∀S,DF ax nk g [.agg x.ai,.agg y.ai] S=some (.bool (F x y),S))(S:St):
 DF ax nk 137 [lU l,lU m,.fn g [] []] S=some (.bool (qP F l m),S):=by
 rw[vh,ak j2.eq_1];by_cases hl:m.length=l.length
 ·obtain⟨J,this⟩:=xG g hg mC F l.length l m rfl hl hb hF S.length l.length 0 (by omega) S
  simp at this;simp[hl];rw[ae dO.eq_1];simp[this];cases e:qP F l m<;>simp
 ·have tC:¬l.length=m.length:=fun e=>hl e.symm
  simp[tC,M8 tC]
theorem wc(g:FuncId)(hg:nk.rP g=none)(mC:u9 g=false)(F:bj->bj->Bool)(n:Nat)(l m:List bj)(hl:l.length=n)(hm:m.length=n)(hb:n<9223372036854775808)(hF:∀x∈l,∀y∈m,∀S,DF ax nk g [.agg x.ai,.agg y.ai] S=some (.bool (F x y),S))(nb:Nat):∀d i,i+d=n->∀S,∃J,
 DC ax nk (.loop dE) ⟨[(1,oU m),(2,.fn g [] []),(15,oU l),(16,.int .i64 n),(17,.int .i64 i)],[],nb⟩ S=if qP F (l.drop i) (m.drop i)=true then some (.exit 0,⟨[],[],nb⟩,S++J)else some (.ret,⟨[(6,.bool false)],[],nb⟩,S++J):=by
 intro d;induction d with
 |zero=>
  intro i hi S;rw[aj,ak dE.eq_1];have h3:l.drop i=[]:=dV (by omega);have h4:m.drop i=[]:=dV (by omega);have h5:¬i<n:=by omega
  exact⟨[],by simp[h3,h4,h5,qP]⟩
 |succ d ih=>
  intro i hi S;have h3:i<n:=by omega
  rw[aj,ak dE.eq_1];obtain⟨x,hx⟩:=iN (l:=l) (i:=i) (by omega);obtain⟨y,hy⟩:=iN (l:=m) (i:=i) (by omega);rw[aJ hx,aJ hy];have hf:=hF x (eT hx) y (eT hy);obtain⟨J,hn⟩:=ih (i+1) (by omega) (S++[.mem x.ai [] false,.mem y.ai [] false]);have hw:=aV (i:=i) (by omega);simp at hn hw;refine⟨if F x y then[.mem x.ai [] false,.mem y.ai [] false]++J else[.mem x.ai [] false,.mem y.ai [] false], ?_⟩;cases he:F x y;·simp[h3,hx,hy,hf,he,qP,bF,hg,mC]
  ·simp[h3,hx,hy,hf,he,qP,bF,hg,mC]
   rw[ae dE.eq_1];simp[hw,hn]
theorem we(g:FuncId)(hg:nk.rP g=none)(mC:u9 g=false)(F:bj->bj->Bool)(l m:List bj)(hb:l.length<9223372036854775808)(hF:∀x∈l,∀y∈m,∀S,DF ax nk g [.agg x.ai,.agg y.ai] S=some (.bool (F x y),S))(S:St):
 DF ax nk 139 [oU l,oU m,.fn g [] []] S=some (.bool (qP F l m),S):=by
 rw[uG,ak jK.eq_1];by_cases hl:m.length=l.length
 ·obtain⟨J,this⟩:=wc g hg mC F l.length l m rfl hl hb hF S.length l.length 0 (by omega) S
  simp at this;simp[hl];rw[ae dE.eq_1];simp[this];cases e:qP F l m<;>simp
 ·have tC:¬l.length=m.length:=fun e=>hl e.symm
  simp[tC,M8 tC]
theorem zs(g:FuncId)(hg:nk.rP g=none)(mC:u9 g=false)(F:dQ->dQ->Bool)(n:Nat)(l m:List dQ)(hl:l.length=n)(hm:m.length=n)(hb:n<9223372036854775808)(hF:∀x∈l,∀y∈m,∀S,DF ax nk g [.agg x.ai,.agg y.ai] S=some (.bool (F x y),S))(nb:Nat):∀d i,i+d=n->∀S,∃J,
 DC ax nk (.loop dY) ⟨[(1,nj m),(2,.fn g [] []),(15,nj l),(16,.int .i64 n),(17,.int .i64 i)],[],nb⟩ S=if qP F (l.drop i) (m.drop i)=true then some (.exit 0,⟨[],[],nb⟩,S++J)else some (.ret,⟨[(6,.bool false)],[],nb⟩,S++J):=by
 intro d;induction d with
 |zero=>
  intro i hi S;rw[aj,ak dY.eq_1];have h3:l.drop i=[]:=dV (by omega);have h4:m.drop i=[]:=dV (by omega);have h5:¬i<n:=by omega
  exact⟨[],by simp[h3,h4,h5,qP]⟩
 |succ d ih=>
  intro i hi S;have h3:i<n:=by omega
  rw[aj,ak dY.eq_1];obtain⟨x,hx⟩:=iN (l:=l) (i:=i) (by omega);obtain⟨y,hy⟩:=iN (l:=m) (i:=i) (by omega);rw[aJ hx,aJ hy];have hf:=hF x (eT hx) y (eT hy);obtain⟨J,hn⟩:=ih (i+1) (by omega) (S++[.mem x.ai [] false,.mem y.ai [] false]);have hw:=aV (i:=i) (by omega);simp at hn hw;refine⟨if F x y then[.mem x.ai [] false,.mem y.ai [] false]++J else[.mem x.ai [] false,.mem y.ai [] false], ?_⟩;cases he:F x y;·simp[h3,hx,hy,hf,he,qP,bF,hg,mC]
  ·simp[h3,hx,hy,hf,he,qP,bF,hg,mC]
   rw[ae dY.eq_1];simp[hw,hn]
theorem zt(g:FuncId)(hg:nk.rP g=none)(mC:u9 g=false)(F:dQ->dQ->Bool)(l m:List dQ)(hb:l.length<9223372036854775808)(hF:∀x∈l,∀y∈m,∀S,DF ax nk g [.agg x.ai,.agg y.ai] S=some (.bool (F x y),S))(S:St):
 DF ax nk 88 [nj l,nj m,.fn g [] []] S=some (.bool (qP F l m),S):=by
 rw[wg,ak j_.eq_1];by_cases hl:m.length=l.length
 ·obtain⟨J,this⟩:=zs g hg mC F l.length l m rfl hl hb hF S.length l.length 0 (by omega) S
  simp at this;simp[hl];rw[ae dY.eq_1];simp[this];cases e:qP F l m<;>simp
 ·have tC:¬l.length=m.length:=fun e=>hl e.symm
  simp[tC,M8 tC]
theorem zu(g:FuncId)(hg:nk.rP g=none)(mC:u9 g=false)(F:bn->bn->Bool)(n:Nat)(l m:List bn)(hl:l.length=n)(hm:m.length=n)(hb:n<9223372036854775808)(hF:∀x∈l,∀y∈m,∀S,DF ax nk g [.agg x.ai,.agg y.ai] S=some (.bool (F x y),S))(nb:Nat):∀d i,i+d=n->∀S,∃J,
 DC ax nk (.loop dZ) ⟨[(1,s_ m),(2,.fn g [] []),(15,s_ l),(16,.int .i64 n),(17,.int .i64 i)],[],nb⟩ S=if qP F (l.drop i) (m.drop i)=true then some (.exit 0,⟨[],[],nb⟩,S++J)else some (.ret,⟨[(6,.bool false)],[],nb⟩,S++J):=by
 intro d;induction d with
 |zero=>
  intro i hi S;rw[aj,ak dZ.eq_1];have h3:l.drop i=[]:=dV (by omega);have h4:m.drop i=[]:=dV (by omega);have h5:¬i<n:=by omega
  exact⟨[],by simp[h3,h4,h5,qP]⟩
 |succ d ih=>
  intro i hi S;have h3:i<n:=by omega
  rw[aj,ak dZ.eq_1];obtain⟨x,hx⟩:=iN (l:=l) (i:=i) (by omega);obtain⟨y,hy⟩:=iN (l:=m) (i:=i) (by omega);rw[aJ hx,aJ hy];have hf:=hF x (eT hx) y (eT hy);obtain⟨J,hn⟩:=ih (i+1) (by omega) (S++[.mem x.ai [] false,.mem y.ai [] false]);have hw:=aV (i:=i) (by omega);simp at hn hw;refine⟨if F x y then[.mem x.ai [] false,.mem y.ai [] false]++J else[.mem x.ai [] false,.mem y.ai [] false], ?_⟩;cases he:F x y;·simp[h3,hx,hy,hf,he,qP,bF,hg,mC]
  ·simp[h3,hx,hy,hf,he,qP,bF,hg,mC]
   rw[ae dZ.eq_1];simp[hw,hn]
theorem zw(g:FuncId)(hg:nk.rP g=none)(mC:u9 g=false)(F:bn->bn->Bool)(l m:List bn)(hb:l.length<9223372036854775808)(hF:∀x∈l,∀y∈m,∀S,DF ax nk g [.agg x.ai,.agg y.ai] S=some (.bool (F x y),S))(S:St):
 DF ax nk 90 [s_ l,s_ m,.fn g [] []] S=some (.bool (qP F l m),S):=by
 rw[wh,ak ka.eq_1];by_cases hl:m.length=l.length
 ·obtain⟨J,this⟩:=zu g hg mC F l.length l m rfl hl hb hF S.length l.length 0 (by omega) S
  simp at this;simp[hl];rw[ae dZ.eq_1];simp[this];cases e:qP F l m<;>simp
 ·have tC:¬l.length=m.length:=fun e=>hl e.symm
  simp[tC,M8 tC]
inductive aX.Small:aX->Prop
 |mk (v:aX) (aU:v.aU.length<9223372036854775808) (ids:v.ids.length<9223372036854775808) (parts:v.parts.length<9223372036854775808) (all:∀p∈v.parts,aX.Small p):aX.Small v
inductive bj.Small:bj->Prop
 |mk (v:bj) (ar:v.ar.length<9223372036854775808) (parts:v.parts.length<9223372036854775808) (all:∀p∈v.parts,bj.Small p):bj.Small v
inductive bn.Small:bn->Prop
 |mk (v:bn) (type:v.type.Small) (base:v.base.Small) (back:v.back.Small) (aO:v.aO.length<9223372036854775808) (bf:v.bf.length<9223372036854775808) (aAu:∀p∈v.aO,p.x.Small/\p.y.Small) (all:∀p∈v.bf,bn.Small p):bn.Small v
structure ph.Small(o:ph):Prop where
 path:o.path.length<9223372036854775808
 value:o.value.Small
structure aaf.Small(e:aaf):Prop extends e.Ok where
 aiH:e.az.length<9223372036854775808
 op:e.op.Small
 lens:e.lens.Small
theorem CU{a b:Bool}(h:a=true↔b=true):a=b:=by cases a<;>cases b<;>simp_all
theorem aX.jr(a b:aX):same a b=(decide (a.kind=b.kind)&&(decide (a.n=b.n)&&(decide (a.s=b.s)&&(same a.aU b.aU&&(same a.ids b.ids&&same a.parts b.parts))))):=by apply CU;simp only[dk,decide_eq_true_eq,mR];cases a;cases b;simp only[aX.mk.injEq];exact Iff.rfl
theorem bj.jr(a b:bj):same a b=(decide (a.kind=b.kind)&&(same a.ar b.ar&&same a.parts b.parts)):=by apply CU;simp only[dk,decide_eq_true_eq,mR];cases a;cases b;simp only[bj.mk.injEq];exact Iff.rfl
theorem dQ.jr(a b:dQ):same a b=(same a.x b.x&&same a.y b.y):=by apply CU;simp only[dk,mR];cases a;cases b;simp only[dQ.mk.injEq]
theorem bn.jr(a b:bn):same a b=(decide (a.kind=b.kind)&&(decide (a.a=b.a)&&(decide (a.b=b.b)&&(same a.type b.type&&(same a.base b.base&&(same a.back b.back&&(same a.aO b.aO&&same a.bf b.bf))))))):=by apply CU;simp only[dk,decide_eq_true_eq,mR];cases a;cases b;simp only[bn.mk.injEq];exact Iff.rfl
theorem ph.jr(a b:ph):same a b=(decide (a.kind=b.kind)&&(decide (a.id=b.id)&&(decide (a.after=b.after)&&(same a.path b.path&&same a.value b.value)))):=by
 apply CU;simp only[dk,decide_eq_true_eq,mR];cases a;cases b;simp only[ph.mk.injEq];constructor;·rintro⟨h1,h2,h3,h4,h5⟩;exact⟨h1,h3,h4,h2,h5⟩
 ·rintro⟨h1,h3,h4,h2,h5⟩;exact⟨h1,h2,h3,h4,h5⟩
theorem aaf.jr(a b:aaf):same a b=(decide (a.kind=b.kind)&&(same a.aP b.aP&&(same a.key b.key&&(same a.sig b.sig&&(same a.az b.az&&(same a.op b.op&&same a.lens b.lens)))))):=by
 apply CU;simp only[dk,decide_eq_true_eq,mR];cases a;cases b;simp only[aaf.mk.injEq];constructor;·rintro⟨h1,h2,h3,h4,h5,h6,h7⟩;exact⟨h1,h2,h6,h7,h3,h4,h5⟩
 ·rintro⟨h1,h2,h6,h7,h3,h4,h5⟩;exact⟨h1,h2,h3,h4,h5,h6,h7⟩
theorem eZ(a:aX):∀(b:aX),a.Small->b.Small->∀S,DF ax nk 85 [.agg a.ai,.agg b.ai] S=some (.bool (same a b),S):=by
 induction a using aX.ind with
 |h a ih=>
  intro b ha hb S;obtain⟨_,a1,a2,a3,a4⟩:=ha;obtain⟨_,b1,b2,b3,b4⟩:=hb;rw[TH,ak D3.eq_1,aX.jr];have h53:=oB a.aU b.aU a1 b1;have h54:=FV a.ids b.ids a2 b2;have h55:=xH 85 rfl rfl same a.parts b.parts a3 fun x hx y hy S=>ih x hx y (a4 x hx) (b4 y hy) S;rw[Hz (fun _ _ _ _=>rfl)]at h55;by_cases c1:a.kind=b.kind;rotate_left;·simp[kK,c1]
  by_cases c2:a.n=b.n;rotate_left;·simp[kK,c1,c2]
  by_cases c3:a.s=b.s;rotate_left;·simp[kK,c1,c2,c3]
  cases c4:same a.aU b.aU;·simp[kK,c1,c2,c3,c4,h53]
  cases c5:same a.ids b.ids;·simp[kK,c1,c2,c3,c4,c5,h53,h54]
  simp[kK,c1,c2,c3,c4,c5,h53,h54,h55]
theorem oq(a:bj):∀(b:bj),a.Small->b.Small->∀S,DF ax nk 87 [.agg a.ai,.agg b.ai] S=some (.bool (same a b),S):=by
 induction a using bj.ind with
 |h a ih=>
  intro b ha hb S;obtain⟨_,a1,a3,a4⟩:=ha;obtain⟨_,b1,b3,b4⟩:=hb;rw[QO,ak BO.eq_1,bj.jr];have h53:=oB a.ar b.ar a1 b1;have h56:=we 87 rfl rfl same a.parts b.parts a3 fun x hx y hy S=>ih x hx y (a4 x hx) (b4 y hy) S;rw[Hz (fun _ _ _ _=>rfl)]at h56;by_cases c0:a.kind=b.kind;rotate_left;·simp[xI,c0]
  simp[xI,c0,h53];cases c1:same a.ar b.ar<;>simp[h56]
theorem VL(a b:dQ)(ha:a.x.Small/\a.y.Small)(hb:b.x.Small/\b.y.Small)(S:St):DF ax nk 89 [.agg a.ai,.agg b.ai] S=some (.bool (same a b),S):=by rw[QP,ak BP.eq_1,dQ.jr];have hx:=eZ a.x b.x ha.1 hb.1;have hy:=eZ a.y b.y ha.2 hb.2;cases c0:same a.x b.x<;>simp[c0,hx,hy]
theorem abq(a:bn):∀(b:bn),a.Small->b.Small->∀S,DF ax nk 43 [.agg a.ai,.agg b.ai] S=some (.bool (same a b),S):=by
 induction a using bn.ind with
 |h a ih=>
  intro b ha hb S;obtain⟨_,a1,a2,a3,a4,a5,a6,a7⟩:=ha;obtain⟨_,b1,b2,b3,b4,b5,b6,b7⟩:=hb;rw[VM,ak HA.eq_1,bn.jr];have ht:=oq a.type b.type a1 b1;have hx:=eZ a.base b.base a2 b2;have hy:=eZ a.back b.back a3 b3;have hp:=zt 89 rfl rfl same a.aO b.aO a4 fun x hx y hy S=>VL x y (a6 x hx) (b6 y hy) S;have hi:=zw 43 rfl rfl same a.bf b.bf a5 fun x hx y hy S=>ih x hx y (a7 x hx) (b7 y hy) S;rw[Hz (fun _ _ _ _=>rfl)]at hp hi;by_cases c0:a.kind=b.kind;rotate_left;·simp[jF,c0]
  by_cases c1:a.a=b.a;rotate_left;·simp[jF,c0,c1]
  by_cases c2:a.b=b.b;rotate_left;·simp[jF,c0,c1,c2]
  cases c3:same a.type b.type;·simp[jF,c0,c1,c2,c3,ht]
  cases c4:same a.base b.base;·simp[jF,c0,c1,c2,c3,c4,ht,hx]
  cases c5:same a.back b.back;·simp[jF,c0,c1,c2,c3,c4,c5,ht,hx,hy]
  cases c6:same a.aO b.aO;·simp[jF,c0,c1,c2,c3,c4,c5,c6,ht,hx,hy,hp]
  simp[jF,c0,c1,c2,c3,c4,c5,c6,ht,hx,hy,hp,hi]
theorem agt(a b:ph)(ha:a.Small)(hb:b.Small)(S:St):DF ax nk 45 [.agg a.ai,.agg b.ai] S=some (.bool (same a b),S):=by
 rw[abr,ak OR.eq_1,ph.jr];have hp:=CR a.path b.path ha.path hb.path;have hv:=eZ a.value b.value ha.value hb.value;by_cases c0:a.kind=b.kind;rotate_left;·simp[tc,c0]
 by_cases c1:a.id=b.id;rotate_left;·simp[tc,c0,c1]
 by_cases c2:a.after=b.after;rotate_left;·simp[tc,c0,c1,c2]
 cases c3:same a.path b.path;·simp[tc,c0,c1,c2,c3,hp]
 simp[tc,c0,c1,c2,c3,hp,hv]
def N6:List UInt8->List UInt8->Int
 |[],[]=>0
 |[],_::_=> -1
 |_::_,[]=>1
 |a::x,b::y=>if a<b then-1 else if b<a then 1 else N6 x y
theorem afE:∀x y,(N6 x y<0)=(bl x y=true)
 |[],[]=>by simp[N6,bl]
 |[],_::_=>by simp[N6,bl]
 |_::_,[]=>by simp[N6,bl]
 |a::x,b::y=>by
  simp only[N6,bl];by_cases e:a=b;·subst e;simp[afE x y]
  ·by_cases h:a<b
   ·simp[e,h]
   ·have:b<a:=UInt8.lt_of_le_of_ne (YN.1 h) fun e'=>e e'.symm
    simp[e,h,this]
def J6(x:List UInt8):List (List AV):=x.map fun b=>[gy b]
@[simp]theorem aqt(x:List UInt8):(J6 x).length=x.length:=by simp[J6]
@[simp]theorem ae2(x:List UInt8)(i:Nat):(J6 x)[i]? =(x[i]?).map fun b=>[gy b]:=by simp[J6]
@[simp]theorem aiV(r:jQ)(x:List UInt8)(k:IntKind)(i:Nat):oa 1 (.sl r 1 (J6 x)) (.int k (i:Int))=(x[i]?).map fun b=>.ec (vW r) [gy b] 0:=by simp only[oa];rw[if_neg (by omega)];simp[Fs]
@[simp]theorem arL(r:jQ)(x:List UInt8):gj (.sl r 1 (J6 x))=some (.int .i64 x.length):=by simp[gj]
theorem anM{a b:UInt8}:((a.toNat:Int)<b.toNat)=(a<b):=by simp[UInt8.lt_iff_toNat_lt]
theorem Dw(n:Int)(S:St):DF ax nk 193 [.int .u8 n] S=some (.bool false,S):=by rw[Mi,ak vu.eq_1];simp
theorem Mr(a b:Int)(S:St):DF ax nk 167 [.int .u8 a,.int .u8 b] S=some (.int .i64 (if a<b then-1 else if b<a then 1 else 0),S):=by
 rw[Jg,ak sL.eq_1];have h1:=Dw a S;have h2:=Dw b S;by_cases c1:a<b;·simp[h1,h2,c1]
 ·by_cases c2:b<a
  ·simp[h1,h2,c1,c2]
  ·simp[h1,h2,c1,c2]
theorem GX(r r':jQ)(n:Nat)(x y:List UInt8)(hx:x.length=n)(hy:y.length=n)(hn:n<9223372036854775808)(nb:Nat)(S:St):∀d i,i+d=n->
 DC ax nk (.loop fg) ⟨[(0,.sl r 1 (J6 x)),(1,.sl r' 1 (J6 y)),(9,.sl r 1 (J6 x)),(10,.int .i64 n),(11,.int .i64 i)],[],nb⟩ S=
  if N6 (x.drop i) (y.drop i)=0 then some (.exit 0,⟨[(0,.sl r 1 (J6 x)),(1,.sl r' 1 (J6 y))],[],nb⟩,S)else some (.ret,⟨[(4,.int .i64 (N6 (x.drop i) (y.drop i)))],[],nb⟩,S):=by
 intro d;induction d with
 |zero=>
  intro i hi;rw[aj,ak fg.eq_1];have h3:x.drop i=[]:=dV (by omega);have h4:y.drop i=[]:=dV (by omega);have h5:¬i<n:=by omega
  simp[h3,h4,h5,N6]
 |succ d ih=>
  intro i hi;rw[aj,ak fg.eq_1];have h3:i<n:=by omega
  have h6:¬n<=i:=by omega
  obtain⟨a,ha,JY⟩:=aE (l:=x) (i:=i) (by omega);obtain⟨b,hb,Cn⟩:=aE (l:=y) (i:=i) (by omega);rw[aJ ha,aJ hb];have Cr:=ih (i+1) (by omega);have hw:=aV (i:=i) (by omega);have hf:=Mr a.toNat b.toNat S;simp only[anM]at hf;simp at Cr hw;by_cases c1:a<b;·simp[h3,h6,ha,Cn,hy,N6,c1,hf,gy]
  ·by_cases c2:b<a
   ·simp[h3,h6,ha,Cn,hy,N6,c1,c2,hf,gy]
   ·simp[h3,h6,ha,Cn,hy,N6,c1,c2,hf,gy]
    rw[ae fg.eq_1];simp[hw,Cr]
theorem GY(r r':jQ)(x y:List UInt8)(h0:x≠[])(hy:y.length=x.length)(hn:x.length<9223372036854775808)(S:St):DF ax nk 131 [.sl r 1 (J6 x),.sl r' 1 (J6 y)] S=some (.int .i64 (N6 x y),S):=by
 rw[Dh,ak oJ.eq_1];have:=GX r r' x.length x y rfl hy hn S.length S x.length 0 (by omega);simp at this;by_cases e:N6 x y=0
 ·simp[e]at this
  simp;rw[ae fg.eq_1];simp[this,hy,e]
 ·simp[e]at this
  simp;rw[ae fg.eq_1];simp[this]
theorem XT{S:St}{i n c:Nat}{x:List UInt8}{bt:List (Option Nat)}{b:Bool}(h:S[i]? =some (.mem (aK x) bt b))(hx:x.length=n):bN S (.aref i 0 n c 1)=some (.sl (.mz i) 1 (J6 x)):=by
 have:(List.range n).map (fun k=>(sub (aK x) (0+k*1) 1).map am.aB)=J6 x:=by
  refine K3 fun j=>?_;rw[gx,ae2];rcases iI j n with h1|h1
  ·obtain⟨a,ha,JY⟩:=aE (l:=x) (i:=j) (by omega)
   rw[Fl h1,ha];have:(aK x)[j]? =some (gy a):=by simp[aK,ha]
   simp only[qJ,sub,yo,BI];rw[aJ this];rfl
  ·rw[kR (by simpa using h1),kR (by omega)]
   rfl
 simp only[bN,bL,h,this];rw[if_pos ⟨by simp[hx],by omega⟩];rfl
theorem YW(x y:List UInt8)(hx:x.length=32)(hy:y.length=32)(S:St):DF ax nk 83 [.agg (aK x),.agg (aK y)] S=some (.bool (bl x y),S):=by rw[Uv,ak Eu.eq_1];have h:=fun r r' S=>GY r r' x y (by intro e;simp[e]at hx) (by omega) (by omega) S;have g0:bN (S++[.mem (aK x) [] false,.mem (aK y) [] false]) (.aref S.length 0 32 32 1)=some (.sl (.mz S.length) 1 (J6 x)):=XT (bt:=[]) (b:=false) (by simp) hx;have g1:bN (S++[.mem (aK x) [] false,.mem (aK y) [] false]) (.aref (S.length+1) 0 32 32 1)=some (.sl (.mz (S.length+1)) 1 (J6 y)):=XT (bt:=[]) (b:=false) (by simp) hy;have hb:=afE x y;have n0:∀i(z:List UInt8),norm (.sl (.mz i) 1 (J6 z))=.sl (.mz i) 1 (J6 z):=fun _ _=>rfl;simp[hx,hy,h,xD,g0,g1,dW,cg,na,dj,bB,hb,n0]
theorem Kz(x y:List UInt8)(hx:x.length=32)(hy:y.length=32)(S:St):∀(d i:Nat),i+d=32->
 DC ax nk (.loop fV) ⟨[(2,.ptr S.length 0),(3,.ptr (S.length+1) 0),(5,.int .i64 (i:Nat))],[],S.length⟩ (S++[.mem (aK x) [] false,.mem (aK y) [] false])=
  if x.drop i=y.drop i then some (.exit 0,⟨[],[],S.length⟩,S++[.mem (aK x) [] false,.mem (aK y) [] false])else some (.ret,⟨[(4,.bool (bl (x.drop i) (y.drop i)))],[],S.length⟩,S++[.mem (aK x) [] false,.mem (aK y) [] false]):=by
 intro d;induction d with
 |zero=>
  intro i hi;obtain rfl:i=32:=by omega
  rw[aj,ak fV.eq_1];have h3:x.drop 32=[]:=dV (by omega);have h4:y.drop 32=[]:=dV (by omega);simp[h3,h4]
 |succ d ih=>
  intro i hi;rw[aj,ak fV.eq_1];have h3:i<32:=by omega
  have h3':(i:Int)<32:=by omega
  have h0:¬(i:Int)<0:=by omega
  obtain⟨a,ha,JY⟩:=aE (l:=x) (i:=i) (by omega);obtain⟨b,hb,Cn⟩:=aE (l:=y) (i:=i) (by omega);rw[aJ ha,aJ hb];have Cr:=ih (i+1) (by omega);have hw:=aV (i:=i) (by omega);simp at Cr hw;have u:=anM (a:=a) (b:=b);by_cases e:a=b
  ·subst e
   simp[h0,h3,h3',ha,hb,CE,aK,gy,bl];rw[ae fV.eq_1];simp only[aK]at Cr;simp[hw,Cr]
  ·have e':¬a.toNat=b.toNat:=fun k=>e (UInt8.toNat_inj.1 k)
   simp[h0,h3,h3',ha,hb,CE,aK,gy,bl,e,e',u]
theorem J5(x y:List UInt8)(hx:x.length=32)(hy:y.length=32)(S:St):DF ax nk 20 [.agg (aK x),.agg (aK y)] S=some (.bool (bl x y),S):=by
 rw[GL,ak ru.eq_1];have h:=Kz x y hx hy S 32 0 rfl;simp at h;by_cases e:x=y
 ·subst e
  simp at h;simp[hx];rw[ae fV.eq_1];simp[h,JV]
 ·simp[e]at h
  simp[hx,hy];rw[ae fV.eq_1];simp[h]
theorem wrap_i64(n:Int)(h0: -9223372036854775808<=n)(h1:n<9223372036854775808):IntKind.wrap .i64 n=n:=by
 have:IntKind.wrap .i64 n=if n %18446744073709551616≥9223372036854775808 then n %18446744073709551616 -18446744073709551616 else n %18446744073709551616:=by simp[IntKind.wrap,IntKind.bits,IntKind.signed]
 rw[this];split<;>omega
@[simp]theorem atX(n:Nat):((n:Int)<0)=False:=by simp
def Ve(n:Nat):Bool:=(decide (97<=n)&&decide (n<=122))||(decide (48<=n)&&decide (n<=57))||decide (n=95)
def jY(s:bq):Bool:=s.all fun b=>Ve b.toNat
def dq(s:bq):Bool:=jY s&&decide (1<=s.length)&&decide (s.length<=12)
theorem Vf(n:Nat):Ve n=((decide ((97:Int)<=n)&&decide ((n:Int)<=122))||(decide ((48:Int)<=n)&&decide ((n:Int)<=57))||decide ((n:Int)=95)):=by
 unfold Ve;have e1:((97:Int)<=n)=(97<=n):=by simp only[eq_iff_iff];omega
 have e2:((n:Int)<=122)=(n<=122):=by simp only[eq_iff_iff];omega
 have e3:((48:Int)<=n)=(48<=n):=by simp only[eq_iff_iff];omega
 have e4:((n:Int)<=57)=(n<=57):=by simp only[eq_iff_iff];omega
 have e5:((n:Int)=95)=(n=95):=by simp only[eq_iff_iff];omega
 simp only[e1,e2,e3,e4,e5]
theorem KA(s:bq)(hs:s.length<9223372036854775808)(nb:Nat)(S:St):∀d i,i+d=s.length->
 DC ax nk (.loop fX) ⟨[(0,.str s),(3,.int .i64 (i:Nat))],[],nb⟩ S=if jY (s.drop i)then some (.exit 0,⟨[(0,.str s)],[],nb⟩,S)else some (.ret,⟨[(2,.bool false)],[],nb⟩,S):=by
 intro d;induction d with
 |zero=>
  intro i hi;rw[aj,ak fX.eq_1];have h5:¬i<s.length:=by omega
  have h6:s.drop i=[]:=dV (by omega);simp[h5,h6,jY]
 |succ d ih=>
  intro i hi;have h3:i<s.length:=by omega
  rw[aj,ak fX.eq_1];obtain⟨x,hx,kM⟩:=aE (l:=s) (i:=i) (by omega);rw[aJ hx];have hn:=ih (i+1) (by omega);have hw:=aV (i:=i) (by omega);simp at hn hw;have hr:=Vf x.toNat;by_cases c1:(97:Int)<=x.toNat<;>by_cases c2:(x.toNat:Int)<=122<;>by_cases c3:(48:Int)<=x.toNat<;>by_cases c4:(x.toNat:Int)<=57<;>by_cases c5:(x.toNat:Int)=95<;>
   (
    simp[c1,c2,c3,c4,c5]at hr;try omega
    all_goals(
     simp[uU,h3,kM,c1,c2,c3,c4,c5,jY,hr,bF]
     try(
      rw[ae fX.eq_1];simp[hw];simpa[jY]using hn)))
theorem ji(s:bq)(hs:s.length<9223372036854775808)(S:St):DF ax nk 98 [.str s] S=some (.bool (dq s),S):=by
 rw[GN,ak rC.eq_1];have e:=KA s hs S.length S s.length 0 (by omega);simp only[jS]at e;cases hx:jY s
 ·rw[hx]at e
  simp at e;simp;rw[ae fX.eq_1];simp[e,dq,hx]
 ·rw[hx]at e
  simp at e;simp;rw[ae fX.eq_1];by_cases c1:(1:Int)<=s.length<;>by_cases c2:(s.length:Int)<=12
  ·have d1:1<=s.length:=by omega
   have d2:s.length<=12:=by omega
   simp[e,dq,hx,c1,c2,d1,d2]
  ·have d1:1<=s.length:=by omega
   have d2:¬s.length<=12:=by omega
   simp[e,dq,hx,c1,c2,d1,d2]
  ·have d1:¬1<=s.length:=by omega
   simp[e,dq,hx,c1,d1]
  ·have d1:¬1<=s.length:=by omega
   simp[e,dq,hx,c1,d1]
theorem Jy(n:Nat)(S:St):DF ax nk 173 [.int .i32 n] S=some (.bool (!Ve n),S):=by
 rw[Pp,ak Ay.eq_1];have hr:=Vf n;by_cases c1:(97:Int)<=n<;>by_cases c2:(n:Int)<=122<;>by_cases c3:(48:Int)<=n<;>by_cases c4:(n:Int)<=57<;>by_cases c5:(n:Int)=95<;>
  (
   simp[c1,c2,c3,c4,c5]at hr;try omega
   all_goals simp[C_,c1,c2,c3,c4,c5,hr,bF])
theorem Vg{n:Nat}(h:128<=n):Ve n=false:=by
 unfold Ve;have h1:¬n<=122:=by omega
 have h2:¬n<=57:=by omega
 have h3:¬n=95:=by omega
 simp[h1,h2,h3]
theorem KB(s:bq)(hs:s.length<9223372036854775808)(nb:Nat)(S:St):∀d pos,s.length -pos<=d->
 (jY (s.drop pos)=true->∃s1,DC ax nk (.loop b9) ⟨[(1,.fn 173 [] []),(2,.bool true),(10,.ptr S.length 0)],[],nb⟩ (S++[.iter s pos])=some (.exit 0,⟨[],[],nb⟩,S++[.iter s s1]))/\
 (jY (s.drop pos)=false->∃(k s1:Nat),DC ax nk (.loop b9) ⟨[(1,.fn 173 [] []),(2,.bool true),(10,.ptr S.length 0)],[],nb⟩ (S++[.iter s pos])=some (.ret,⟨[(6,.int .i64 k)],[],nb⟩,S++[.iter s s1])):=by
 have fin:∀pos,¬pos<s.length->(jY (s.drop pos)=true->∃s1,DC ax nk (.loop b9) ⟨[(1,.fn 173 [] []),(2,.bool true),(10,.ptr S.length 0)],[],nb⟩ (S++[.iter s pos])=some (.exit 0,⟨[],[],nb⟩,S++[.iter s s1]))/\
  (jY (s.drop pos)=false->∃(k s1:Nat),DC ax nk (.loop b9) ⟨[(1,.fn 173 [] []),(2,.bool true),(10,.ptr S.length 0)],[],nb⟩ (S++[.iter s pos])=some (.ret,⟨[(6,.int .i64 k)],[],nb⟩,S++[.iter s s1])):=by
  intro pos h;have h6:s.drop pos=[]:=dV (by omega);refine⟨fun _=>⟨pos, ?_⟩,fun h7=>by simp[h6,jY]at h7⟩;rw[aj,ak b9.eq_1];simp[zR,h]
 intro d;induction d with
 |zero=>intro pos hd;exact fin pos (by omega)
 |succ d ih=>
  intro pos hd;rcases iI pos s.length with h3|h3;rotate_left;·exact fin pos (by omega)
  obtain⟨x,hx,kM⟩:=aE (l:=s) (i:=pos) h3;rw[aJ hx];by_cases hb:x.toNat<128
  ·have alu:=ag6 hx hb
   have qN:=Jy x.toNat (S++[.iter s (pos+1)]);obtain⟨ih1,ih2⟩:=ih (pos+1) (by omega);cases hr:Ve x.toNat
   ·refine⟨fun h=>by simp[jY,hr]at h,fun _=>⟨pos,pos+1, ?_⟩⟩
    rw[aj,ak b9.eq_1];rw[hr]at qN;simp[zR,h3,alu,qN]
   ·have step:DC ax nk (.loop b9) ⟨[(1,.fn 173 [] []),(2,.bool true),(10,.ptr S.length 0)],[],nb⟩ (S++[.iter s pos])=DC ax nk (.loop b9) ⟨[(1,.fn 173 [] []),(2,.bool true),(10,.ptr S.length 0)],[],nb⟩ (S++[.iter s (pos+1)]):=by rw[aj,ak b9.eq_1];rw[hr]at qN;simp[zR,h3,alu,qN];rw[ae b9.eq_1];simp
    rw[step];refine⟨fun h=>ih1 (by simpa[jY,hr]using h),fun h=>ih2 (by simpa[jY,hr]using h)⟩
  ·obtain⟨k1,_⟩:=akg hx (by omega)
   have hr:=Vg (n:=x.toNat) (by omega);have qN:=Jy (Utf8.decode ⟨s.toArray⟩ pos).1 (S++[.iter s (pos+(Utf8.decode ⟨s.toArray⟩ pos).2)]);rw[Vg k1]at qN;refine⟨fun h=>by simp[jY,hr]at h,fun _=>⟨pos,pos+(Utf8.decode ⟨s.toArray⟩ pos).2, ?_⟩⟩;rw[aj,ak b9.eq_1];simp at qN;simp[zR,h3,qN]
theorem KG(s:bq)(hs:s.length<9223372036854775808)(S:St):∃k:Int,(k<0↔jY s=true)/\DF ax nk 195 [.str s,.fn 173 [] [],.bool true] S=some (.int .i64 k,S):=by
 rw[GU,ak rI.eq_1];obtain⟨h1,h2⟩:=KB s hs S.length S s.length 0 (by omega);simp only[jS]at h1 h2;cases hx:jY s
 ·obtain⟨k,s1,e⟩:=h2 hx
  refine⟨k,by simp, ?_⟩;simp[OF];rw[ae b9.eq_1];simp[e]
 ·obtain⟨s1,e⟩:=h1 hx
  refine⟨-1,by simp, ?_⟩;simp[OF];rw[ae b9.eq_1];simp[e]
theorem KH(s:bq)(hs:s.length<9223372036854775808)(S:St):∃k:Int,(k<0↔jY s=true)/\DF ax nk 172 [.str s,.fn 173 [] []] S=some (.int .i64 k,S):=by rw[GQ,ak rF.eq_1];obtain⟨k,h1,h2⟩:=KG s hs S;exact⟨k,h1,by simp[h2]⟩
theorem kj(s:bq)(hs:s.length<9223372036854775808)(S:St):DF ax nk 140 [.str s] S=some (.bool (dq s),S):=by
 rw[UB,ak EF.eq_1];obtain⟨k,h1,h2⟩:=KH s hs S;have hk:decide (k<0)=jY s:=by
  cases hx:jY s;·rw[hx]at h1;simp at h1;simp;omega
  ·rw[hx]at h1;simp at h1;simp[h1]
 unfold dq;by_cases c1:s=[]
 ·subst c1
  simp[h2]
 ·have c3:s.isEmpty=false:=by simpa using c1
  have d1:1<=s.length:=by cases s with|nil=>exact absurd rfl c1|cons a l=>simp
  by_cases c2:(s.length:Int)<=12
  ·have d2:s.length<=12:=by omega
   simp[h2,c2,c3,d1,d2,hk]
  ·have d2:¬s.length<=12:=by omega
   simp[h2,c2,c3,d1,d2]
def goN:Option bq->List bq->Bool
 |_,[]=>true
 |p,s::r=>dq s&&(match p with|none=>true|some q=>Op.bytesLess q s)&&goN (some s) r
def BF(l:List bq)(i:Nat):Option bq:=if i=0 then none else l[i -1]?
theorem Vh{l:List bq}{i:Nat}{x:bq}(h:l[i]? =some x):BF l (i+1)=some x:=by simp[BF,h]
def QN:List Int->List Int->Bool
 |_,[]=>true
 |seen,n::r=>decide (n≠0)&& !(seen.contains n)&&QN (seen++[n]) r
def uK{α:Type}[DecidableEq α](x:α):List α->Nat->Int
 |[],_=> -1
 |a::r,k=>if a=x then(k:Int)else uK x r (k+1)
theorem UY{α:Type}[DecidableEq α](x:α):∀(l:List α)(k:Nat),(0<=uK x l k)↔x∈l
 |[],k=>by simp[uK]
 |a::r,k=>by
  unfold uK;split;·rename_i e;subst e;simp
  ·rename_i e
   rw[UY x r (k+1)];simp only[yi];exact⟨.inr,fun h=>h.elim (fun h=>absurd h.symm e) id⟩
theorem GZ(l:List Int)(x:Int)(hl:l.length<9223372036854775808)(nb:Nat)(S:St):∀d i,i+d=l.length->
 DC ax nk (.loop fj) ⟨[(0,jn l),(1,.int .u64 x),(7,.int .i64 l.length),(8,.int .i64 (i:Nat))],[],nb⟩ S=if 0<=uK x (l.drop i) i then some (.ret,⟨[(4,.int .i64 (uK x (l.drop i) i))],[],nb⟩,S)else some (.exit 0,⟨[],[],nb⟩,S):=by
 intro d;induction d with
 |zero=>
  intro i hi;rw[aj,ak fj.eq_1];have h5:¬i<l.length:=by omega
  have h6:l.drop i=[]:=dV (by omega);simp[h5,h6,uK]
 |succ d ih=>
  intro i hi;have h3:i<l.length:=by omega
  rw[aj,ak fj.eq_1];obtain⟨y,hy,gg⟩:=aE (l:=l) (i:=i) (by omega);rw[aJ hy];have hn:=ih (i+1) (by omega);have hw:=aV (i:=i) (by omega);simp at hn hw;by_cases e:y=x
  ·subst e
   simp[h3,gg,uK]
  ·have e':¬x=y:=fun h=>e h.symm
   simp[h3,gg,uK,e,e'];rw[ae fj.eq_1];simp[hw];exact hn
theorem G1(l:List Int)(x:Int)(hl:l.length<9223372036854775808)(S:St):DF ax nk 198 [jn l,.int .u64 x] S=some (.int .i64 (uK x l 0),S):=by
 rw[Dj,ak oM.eq_1];have h:=GZ l x hl S.length S l.length 0 (by omega);simp only[jS]at h;by_cases c:0<=uK x l 0
 ·simp[c]at h
  simp;rw[ae fj.eq_1];simp[h]
 ·have hm:uK x l 0= -1:=by
   have:∀(l:List Int)(k:Nat), -1<=uK x l k:=by
    intro l;induction l with
    |nil=>intro k;simp[uK]
    |cons a r ih=>intro k;unfold uK;split;omega;exact ih _
   have:=this l 0;omega
  simp[c]at h;simp;rw[ae fj.eq_1];simp[h,hm]
theorem Cl(l:List Int)(x:Int)(hl:l.length<9223372036854775808)(S:St):DF ax nk 184 [jn l,.int .u64 x] S=some (.bool (l.contains x),S):=by
 rw[AI,ak mh.eq_1];have h:=G1 l x hl S;have e:decide (0<=uK x l 0)=l.contains x:=by rw[lQ];simp[UY]
 simp[h,e]
theorem akh(l:List Int)(i:Nat)(h:i<l.length):zn 1 (jn l) none (some (.int .i64 i))=some (jn (l.take i)):=by
 cases l with
 |nil=>simp at h
 |cons a r=>
  have hle:i<=r.length+1:=by simp at h;omega
  have nV:¬i=r.length+1:=by simp at h;omega
  have hi:(i:Int)<=(r.length:Int)+1:=by omega
  cases i with
  |zero=>
   have h0:(0:Int)<=(r.length:Int)+1:=by omega
   simp[jn,iA,zn,vW,h0]
  |succ i=>
   have MP:(i:Int)+1<=(r.length:Int)+1:=by omega
   have ahy:¬i=r.length:=by omega
   have e1:((i:Int)+1).toNat=i+1:=by omega
   have e0:(0:Int)<=(i:Int)+1:=by omega
   simp[jn,iA,zn,vW,MP,ahy,e1,e0]
theorem Vi(l:List Int)(hl:l.length<9223372036854775808)(nb:Nat)(S:St):∀d i,i+d=l.length->
 DC ax nk (.loop jy) ⟨[(0,jn l),(5,jn l),(6,.int .i64 l.length),(7,.int .i64 (i:Nat))],[],nb⟩ S=if QN (l.take i) (l.drop i)then some (.exit 0,⟨[(0,jn l)],[],nb⟩,S)else some (.ret,⟨[(2,.bool false)],[],nb⟩,S):=by
 intro d;induction d with
 |zero=>
  intro i hi;rw[aj,ak jy.eq_1];have h5:¬i<l.length:=by omega
  have h6:l.drop i=[]:=dV (by omega);simp[h5,h6,QN]
 |succ d ih=>
  intro i hi;have h3:i<l.length:=by omega
  rw[aj,ak jy.eq_1];obtain⟨y,hy,gg⟩:=aE (l:=l) (i:=i) (by omega);rw[aJ hy];have hn:=ih (i+1) (by omega);have hw:=aV (i:=i) (by omega);have ht:l.take (i+1)=l.take i++[y]:=by rw[sW,hy];rfl
  rw[ht]at hn;have hc:=Cl (l.take i) y (by simp;omega) S;have hs:=akh l i h3;simp at hn hw;by_cases e:y=0
  ·subst e
   simp[h3,gg,QN]
  ·by_cases hx:y∈l.take i
   ·have kM:(l.take i).contains y=true:=by simpa using hx
    rw[kM]at hc;simp[h3,gg,QN,e,hs,hc,hx]
   ·have kM:(l.take i).contains y=false:=by simpa using hx
    rw[kM]at hc;simp[h3,gg,QN,e,hs,hc,hx];rw[ae jy.eq_1];simp[hw];exact hn
theorem Jp(l:List Int)(hl:l.length<9223372036854775808)(S:St):DF ax nk 158 [jn l] S=some (.bool (QN [] l&&decide (l.length<=12)),S):=by
 rw[Pn,ak Au.eq_1];have h:=Vi l hl S.length S l.length 0 (by omega);simp only[jS,Ou]at h;cases hx:QN [] l
 ·rw[hx]at h
  simp at h;simp;rw[ae jy.eq_1];simp[h]
 ·rw[hx]at h
  simp at h;simp;rw[ae jy.eq_1];have e:decide ((l.length:Int)<=12)=decide (l.length<=12):=by rw[lQ];simp;omega
  simp[h,e]
section
theorem Vj(l:List bq)(hl:l.length<9223372036854775808)(hn:∀x∈l,x.length<9223372036854775808)(nb:Nat)(S:St):∀d i,i+d=l.length->
 DC ax nk (.loop iV) ⟨[(0,cw l),(5,cw l),(6,.int .i64 l.length),(7,.int .i64 (i:Nat))],[],nb⟩ S=if goN (BF l i) (l.drop i)then some (.exit 0,⟨[(0,cw l)],[],nb⟩,S)else some (.ret,⟨[(2,.bool false)],[],nb⟩,S):=by
 intro d;induction d with
 |zero=>
  intro i hi;rw[aj,ak iV.eq_1];have h5:¬i<l.length:=by omega
  have h6:l.drop i=[]:=dV (by omega);simp[h5,h6,goN]
 |succ d ih=>
  intro i hi;have h3:i<l.length:=by omega
  rw[aj,ak iV.eq_1];obtain⟨y,hy,gg⟩:=aE (l:=l) (i:=i) (by omega);rw[aJ hy];have hr:=ih (i+1) (by omega);rw[Vh hy]at hr;have hw:=aV (i:=i) (by omega);have ZQ:=kj y (hn y (eT hy)) S;simp at hr hw;cases hx:dq y
  ·rw[hx]at ZQ
   simp[mZ,h3,gg,goN,ZQ,hx,bF]
  ·rw[hx]at ZQ
   rcases Nat.eq_zero_or_pos i with hz0|LF
   ·have hp:BF l i=none:=by simp[BF,hz0]
    have hz1:¬0<i:=by omega
    have hz2:¬(0:Int)<i:=by omega
    simp[mZ,h3,gg,goN,ZQ,hx,bF,hp,hz1];rw[ae iV.eq_1];simp[hw];exact hr
   ·obtain⟨z,hz,hz'⟩:=aE (l:=l) (i:=i -1) (by omega)
    have hp:BF l i=some z:=by simp[BF,hz];omega
    have zm:IntKind.wrap .i64 ((i:Int) -1)=((i -1:Nat):Int):=by rw[wrap_i64 _ (by omega) (by omega)];omega
    have auC:(0:Int)<i:=by omega
    cases hb:Op.bytesLess z y;·simp[mZ,h3,gg,goN,ZQ,hx,bF,hp,LF,zm,hz,hb]
    ·simp[mZ,h3,gg,goN,ZQ,hx,bF,hp,LF,zm,hz,hb]
     rw[ae iV.eq_1];simp[hw];exact hr
theorem Jo(l:List bq)(hl:l.length<9223372036854775808)(hn:∀x∈l,x.length<9223372036854775808)(S:St):DF ax nk 157 [cw l] S=some (.bool (goN none l&&decide (l.length<=8)),S):=by
 rw[Pm,ak As.eq_1];have h:=Vj l hl hn S.length S l.length 0 (by omega);simp only[jS,BF,if_true]at h;cases hx:goN none l
 ·rw[hx]at h
  simp at h;simp;rw[ae iV.eq_1];simp[h]
 ·rw[hx]at h
  simp at h;simp;rw[ae iV.eq_1];have e:decide ((l.length:Int)<=8)=decide (l.length<=8):=by rw[lQ];simp;omega
  simp[h,e]
def aX.bare(v:aX):Bool:=v.aU.isEmpty&&(v.ids.isEmpty&&v.parts.isEmpty)
def aX.jH(v:aX):Bool:=
 if v.kind=1 then v.bare&&(v.s.isEmpty&&(decide (v.n=0)||decide (v.n=1)))
 else if v.kind=2 then v.bare&&v.s.isEmpty
 else if v.kind=3 then v.bare&&(decide (v.n=0)&&decide (v.s.length<=64))
 else if v.kind=4 then v.bare&&(decide (v.n=0)&&dq v.s)
 else if v.kind=5 then decide (v.n=0)&&(v.s.isEmpty&&(v.ids.isEmpty&&(decide (v.parts.length=v.aU.length)&&(goN none v.aU&&decide (v.aU.length<=8)))))
 else if v.kind=6 then decide (v.n=0)&&(v.s.isEmpty&&(v.aU.isEmpty&&(decide (v.parts.length=v.ids.length)&&(QN [] v.ids&&decide (v.ids.length<=12)))))
 else false
section
variable(v:aX)(S:St)(sl:KE)(aa:List (Option Nat))(nb:Nat)(k:KC)(w:Bool)
theorem gZ(h1:KE.get sl 1=.ptr S.length 0):CI ax nk (.aN [1,3] k) (CH (qV (lK nk (DF ax nk)) xX ⟨sl,aa,nb⟩ (S++[.mem v.ai [] false])))=DC ax nk k ⟨[(1,.ptr S.length 0),(3,.bool v.bare)],aa,nb⟩ (S++[.mem v.ai [] false]):=by
 unfold xX aX.bare;by_cases c1:v.aU=[]
 ·by_cases c2:v.ids=[]
  ·by_cases c3:v.parts=[]
   ·simp[h1,c1,c2,c3]
   ·have d3:v.parts.isEmpty=false:=by simpa using c3
    simp[h1,c1,c2,c3,d3]
  ·have d2:v.ids.isEmpty=false:=by simpa using c2
   simp[h1,c1,c2,d2]
 ·have d1:v.aU.isEmpty=false:=by simpa using c1
  simp[h1,c1,d1]
theorem PO(h1:KE.get sl 1=.ptr S.length 0)(h3:KE.get sl 3=.bool w):CI ax nk (.aN [2] k) (CH (qV (lK nk (DF ax nk)) xY ⟨sl,aa,nb⟩ (S++[.mem v.ai [] false])))=DC ax nk k ⟨[(2,.bool (w&&(v.s.isEmpty&&(decide (v.n=0)||decide (v.n=1)))))],aa,nb⟩ (S++[.mem v.ai [] false]):=by
 unfold xY;cases w;·simp[h3]
 ·by_cases c1:v.s=[]
  ·by_cases c2:v.n=0
   ·simp[h1,h3,c1,c2]
   ·by_cases c3:v.n=1
    ·simp[h1,h3,c1,c3]
    ·simp[h1,h3,c1,c2,c3]
  ·have d1:v.s.isEmpty=false:=by simpa using c1
   simp[h1,h3,d1]
theorem PQ(h1:KE.get sl 1=.ptr S.length 0)(h3:KE.get sl 3=.bool w):CI ax nk (.aN [2] k) (CH (qV (lK nk (DF ax nk)) xZ ⟨sl,aa,nb⟩ (S++[.mem v.ai [] false])))=DC ax nk k ⟨[(2,.bool (w&&(decide (v.n=0)&&decide (v.s.length<=64))))],aa,nb⟩ (S++[.mem v.ai [] false]):=by
 unfold xZ;have e:decide ((v.s.length:Int)<=64)=decide (v.s.length<=64):=by rw[lQ];simp;omega
 cases w;·simp[h3]
 ·by_cases c2:v.n=0
  ·simp[h1,h3,c2,e]
  ·simp[h1,h3,c2]
theorem PR(hs:v.s.length<9223372036854775808)(h1:KE.get sl 1=.ptr S.length 0)(h3:KE.get sl 3=.bool w):CI ax nk (.aN [2] k) (CH (qV (lK nk (DF ax nk)) x8 ⟨sl,aa,nb⟩ (S++[.mem v.ai [] false])))=DC ax nk k ⟨[(2,.bool (w&&(decide (v.n=0)&&dq v.s)))],aa,nb⟩ (S++[.mem v.ai [] false]):=by
 unfold x8;have e:=kj v.s hs (S++[.mem v.ai [] false]);cases w;·simp[h3]
 ·by_cases c2:v.n=0
  ·simp[h1,h3,c2,e]
  ·simp[h1,h3,c2]
theorem PS(hl:v.aU.length<9223372036854775808)(hn:∀x∈v.aU,x.length<9223372036854775808)(h1:KE.get sl 1=.ptr S.length 0):CI ax nk (.aN [2] k) (CH (qV (lK nk (DF ax nk)) x9 ⟨sl,aa,nb⟩ (S++[.mem v.ai [] false])))=DC ax nk k ⟨[(2,.bool (decide (v.n=0)&&(v.s.isEmpty&&(v.ids.isEmpty&&(decide (v.parts.length=v.aU.length)&&(goN none v.aU&&decide (v.aU.length<=8)))))))],aa,nb⟩ (S++[.mem v.ai [] false]):=by
 unfold x9;have e:=Jo v.aU hl hn (S++[.mem v.ai [] false]);by_cases c2:v.n=0
 ·by_cases c1:v.s=[]
  ·by_cases c3:v.ids=[]
   ·by_cases c4:v.parts.length=v.aU.length
    ·simp[h1,c1,c2,c3,c4,e]
    ·simp[h1,c1,c2,c3,c4]
   ·have d3:v.ids.isEmpty=false:=by simpa using c3
    simp[h1,c1,c2,c3,d3]
  ·have d1:v.s.isEmpty=false:=by simpa using c1
   simp[h1,c2,d1]
 ·simp[h1,c2]
theorem PT(hl:v.ids.length<9223372036854775808)(h1:KE.get sl 1=.ptr S.length 0):CI ax nk (.aN [2] k) (CH (qV (lK nk (DF ax nk)) x_ ⟨sl,aa,nb⟩ (S++[.mem v.ai [] false])))=DC ax nk k ⟨[(2,.bool (decide (v.n=0)&&(v.s.isEmpty&&(v.aU.isEmpty&&(decide (v.parts.length=v.ids.length)&&(QN [] v.ids&&decide (v.ids.length<=12)))))))],aa,nb⟩ (S++[.mem v.ai [] false]):=by
 unfold x_;have e:=Jp v.ids hl (S++[.mem v.ai [] false]);by_cases c2:v.n=0
 ·by_cases c1:v.s=[]
  ·by_cases c3:v.aU=[]
   ·by_cases c4:v.parts.length=v.ids.length
    ·simp[h1,c1,c2,c3,c4,e]
    ·simp[h1,c1,c2,c3,c4]
   ·have d3:v.aU.isEmpty=false:=by simpa using c3
    simp[h1,c1,c2,c3,d3]
  ·have d1:v.s.isEmpty=false:=by simpa using c1
   simp[h1,c2,d1]
 ·simp[h1,c2]
end
theorem Wu(v:aX)(hv:v.Of)(S:St):DF ax nk 169 [.agg v.ai] S=some (.bool v.jH,S):=by
 rw[Rt,ak Ce.eq_1];unfold aX.jH;by_cases k1:v.kind=1;·simp[gZ,PO,k1]
 by_cases k2:v.kind=2
 ·cases hb:v.bare
  ·simp[gZ,k2,hb]
  ·by_cases c1:v.s=[]
   ·simp[gZ,k2,hb,c1]
   ·have d1:v.s.isEmpty=false:=by simpa using c1
    simp[gZ,k2,hb,d1]
 by_cases k3:v.kind=3;·simp[gZ,PQ,k3]
 by_cases k4:v.kind=4;·simp[gZ,PR v _ _ _ _ _ _ hv.s,k4]
 by_cases k5:v.kind=5;·simp[gZ,PS v _ _ _ _ _ hv.aU hv.name,k5]
 by_cases k6:v.kind=6;·simp[gZ,PT v _ _ _ _ _ hv.ids,k6]
 simp[gZ,k1,k2,k3,k4,k5,k6]
end
@[simp]theorem arM(i o:Nat):aB (.ptr i o)=.ptr i o:=rfl
theorem yf(g:FuncId)(hg:nk.rP g=none)(mC:u9 g=false)(j:Nat)(F:aX->Bool)(l:List aX)(hl:l.length<9223372036854775808)(nb:Nat)(S:St)
 (hF:∀x∈l,DF ax nk g [.agg x.ai,.ptr j 0] S=some (.bool (F x),S)):∀d i,i+d=l.length->
 ((l.drop i).any F=false->DC ax nk (.loop bG) ⟨[(0,lU l),(1,.fn g [] [.ptr j 0]),(7,.int .i64 l.length),(8,.int .i64 (i:Nat))],[],nb⟩ S=some (.exit 0,⟨[],[],nb⟩,S))/\
 ((l.drop i).any F=true->∃k:Nat,DC ax nk (.loop bG) ⟨[(0,lU l),(1,.fn g [] [.ptr j 0]),(7,.int .i64 l.length),(8,.int .i64 (i:Nat))],[],nb⟩ S=some (.ret,⟨[(4,.int .i64 k)],[],nb⟩,S)):=by
 intro d;induction d with
 |zero=>
  intro i hi;have h5:¬i<l.length:=by omega
  have h6:l.drop i=[]:=dV (by omega);refine⟨fun _=>?_,fun h=>by simp[h6]at h⟩;rw[aj,ak bG.eq_1];simp[h5]
 |succ d ih=>
  intro i hi;have h3:i<l.length:=by omega
  obtain⟨y,hy,gg⟩:=aE (l:=l) (i:=i) (by omega);rw[aJ hy];obtain⟨JG,MZ⟩:=ih (i+1) (by omega);have hw:=aV (i:=i) (by omega);have hc:=hF y (eT hy);simp at hw;cases hx:F y
  ·rw[hx]at hc
   have step:DC ax nk (.loop bG) ⟨[(0,lU l),(1,.fn g [] [.ptr j 0]),(7,.int .i64 l.length),(8,.int .i64 (i:Nat))],[],nb⟩ S=DC ax nk (.loop bG) ⟨[(0,lU l),(1,.fn g [] [.ptr j 0]),(7,.int .i64 l.length),(8,.int .i64 ((i+1:Nat):Int))],[],nb⟩ S:=by rw[aj,ak bG.eq_1];simp[h3,gg,hg,mC,hc];rw[ae bG.eq_1];simp[hw]
   rw[step];refine⟨fun h=>JG (by simpa[hx]using h),fun h=>MZ (by simpa[hx]using h)⟩
  ·rw[hx]at hc
   refine⟨fun h=>by simp[hx]at h,fun _=>⟨i, ?_⟩⟩;rw[aj,ak bG.eq_1];simp[h3,gg,hg,mC,hc]
theorem uM(g:FuncId)(hg:nk.rP g=none)(mC:u9 g=false)(j:Nat)(F:aX->Bool)(l:List aX)(hl:l.length<9223372036854775808)(S:St)
 (hF:∀x∈l,DF ax nk g [.agg x.ai,.ptr j 0] S=some (.bool (F x),S)):DF ax nk 170 [lU l,.fn g [] [.ptr j 0]] S=some (.bool (l.any F),S):=by
 have key:∃k:Int,(0<=k↔l.any F=true)/\DF ax nk 194 [lU l,.fn g [] [.ptr j 0]] S=some (.int .i64 k,S):=by
  rw[vA,ak j4.eq_1];obtain⟨h1,h2⟩:=yf g hg mC j F l hl S.length S hF l.length 0 (by omega);simp only[jS]at h1 h2;cases hx:l.any F
  ·have e:=h1 hx
   simp at e;refine⟨-1,by simp, ?_⟩;simp;rw[ae bG.eq_1];simp[e]
  ·obtain⟨k,e⟩:=h2 hx
   simp at e;refine⟨k,by simp, ?_⟩;simp;rw[ae bG.eq_1];simp[e]
 rw[tB,ak jo.eq_1];obtain⟨k,h1,h2⟩:=key;have e:decide (0<=k)=l.any F:=by rw[lQ];simpa using h1
 simp[h2,e]
def aX.aR:Nat->aX->Bool
 |0,_=>false
 |d+1,v=>v.jH&&v.parts.all (aX.aR d)
theorem RE(d:Nat)(hd:d<1000000)(x:aX)(j:Nat)(S:St)(bt:List (Option Nat))(lk:Bool)(hS:S[j]? =some (.mem [.int .i64 ((d+1:Nat):Int)] bt lk))
 (hF:∀S,DF ax nk 138 [.agg x.ai,.int .i64 d] S=some (.bool (x.aR d),S)):DF ax nk 171 [.agg x.ai,.ptr j 0] S=some (.bool (!x.aR d),S):=by
 rw[va (ax:=ax) (f:=171) (k:=sm) rfl (M1 rfl) S];unfold sm;simp only[DY,JK];rw[ak FI.eq_1];have hj:=(fI.1 hS).1;have Od:∀b,aY (S++[b]) .cell (.ptr j 0)=some (.int .i64 ((d+1:Nat):Int)):=by intro b;rw[bd (cs:=[.int .i64 ((d+1:Nat):Int)]) (aa:=bt) (l:=lk) (by rw[kP hj];exact hS)];rfl
 have hw:IntKind.wrap .i64 (((d+1:Nat):Int) -1)=d:=by rw[wrap_i64 _ (by omega) (by omega)];omega
 simp at Od hw;simp[Od,hw,hF,bF]
theorem Wv(d:Nat)(hd:d<1000000):∀(v:aX),v.Wf->∀S:St,DF ax nk 138 [.agg v.ai,.int .i64 d] S=some (.bool (v.aR d),S):=by
 induction d with
 |zero=>
  intro v hv S;rw[FM,ak vQ.eq_1];simp[sk,aX.aR]
 |succ d ih=>
  intro v hv S;rw[FM,ak vQ.eq_1];have h1:=Wu v hv.one (S++[.mem v.ai [] false,.mem [.int .i64 ((d+1:Nat):Int)] [] false])
  have h2:=uM 171 rfl rfl (S.length+1) (fun x=> !x.aR d) v.parts hv.one.parts (S++[.mem v.ai [] false,.mem [.int .i64 ((d+1:Nat):Int)] [] false])
   fun x hx=>RE d (by omega) x (S.length+1) _ [] false (by simp) fun S'=>ih (by omega) x (hv.all x hx) S'
  have LF:(0:Int)<(d:Int)+1:=by omega
  simp at h1 h2;cases hp:v.jH
  ·rw[hp]at h1
   simp[sk,aX.aR,h1,hp,LF]
  ·rw[hp]at h1
   simp[sk,aX.aR,h1,h2,hp,LF,bF];rw[List.not_all_eq_any_not]
theorem vM(v:aX)(hv:v.Wf)(S:St):DF ax nk 86 [.agg v.ai] S=some (.bool (v.aR 5),S):=by rw[Ri,ak B0.eq_1];have h:=Wv 5 (by decide) v hv;simp at h;simp[h]
section
def bW(l:bq):List (List AV):=l.map fun b=>[gy b]
@[simp]theorem lR(l:bq):(bW l).length=l.length:=by simp[bW]
@[simp]theorem JM(a b:bq):bW (a++b)=bW a++bW b:=by simp[bW]
theorem abm(l:List UInt8):DK ((aK l).map fun c=>[c])=some l:=by
 have h:∀l:List UInt8,DJ ((aK l).map fun c=>[c])=some (l.map fun b=>(b.toNat:Int)):=by
  intro l;induction l with
  |nil=>rfl
  |cons b l ih=>
   simp only[aK,pz,gy,DJ]at ih⊢;simp only[List.map_map]at ih⊢;rw[show(fun c=>[c])∘gy=fun b:UInt8=>[AV.int .u8 (b.toNat:Int)]from rfl]at ih⊢;rw[ih];rfl
 rw[DK,h];simp only[qJ,List.map_map];congr 1;conv=>rhs;rw[<-List.map_id l]
 refine SO fun b _=>?_;simp
theorem abn(l:bq):DK (bW l)=some l:=by have:=abm l;simpa[aK,bW,Fs]using this
theorem LX(k:IntKind)(a b:Int):bH .add k a k b=some (.int k (k.wrap (a+b))):=by simp only[bH,ne_eq,not_true_eq_false,if_false]
theorem D0(k:IntKind)(a b:Int):bH .mul k a k b=some (.int k (k.wrap (a*b))):=by simp only[bH,ne_eq,not_true_eq_false,if_false]
theorem D1(k:IntKind)(a b:Int):bH .eql k a k b=some (.bool (a==b)):=by simp only[bH,ne_eq,not_true_eq_false,if_false]
theorem z7(k:IntKind)(a b:Int):bH .lss k a k b=some (.bool (decide (a<b))):=by simp only[bH,ne_eq,not_true_eq_false,if_false]
theorem OQ(k:IntKind)(a b:Int):bH .gtr k a k b=some (.bool (decide (a>b))):=by simp only[bH,ne_eq,not_true_eq_false,if_false]
theorem Hv(k:IntKind)(a b:Int):bH .geq k a k b=some (.bool (decide (a≥b))):=by simp only[bH,ne_eq,not_true_eq_false,if_false]
theorem ape(k k2:IntKind)(a b:Int)(h:¬b<0):bH .shr k a k2 b=some (.int k (a.fdiv (2^(min b.toNat k.bits)))):=by simp only[bH];rw[if_neg h]
theorem fN{s:bq}(h:dq s=true):s.length<=12:=by unfold dq at h;simp at h;omega
theorem CN:∀(l:List bq)(p:Option bq),goN p l=true->∀x∈l,dq x=true
 |[],_,_,x,hx=>by simp at hx
 |s::r,p,h,x,hx=>by
  simp only[goN,dk]at h;rcases yi.1 hx with rfl|hx;·exact h.1.1
  ·exact CN r _ h.2 x hx
structure aX.YO(d:Nat)(v:aX):Prop where
 kind:v.kind=1\/v.kind=2\/v.kind=3\/v.kind=4\/v.kind=5\/v.kind=6
 bare:v.kind≠5->v.kind≠6->v.aU=[]/\v.ids=[]/\v.parts=[]
 s3:v.kind=3->v.s.length<=64
 s4:v.kind=4->dq v.s=true
 k5:v.kind=5->v.ids=[]/\v.parts.length=v.aU.length/\goN none v.aU=true/\v.aU.length<=8
 k6:v.kind=6->v.aU=[]/\v.parts.length=v.ids.length/\QN [] v.ids=true/\v.ids.length<=12
 n1:v.kind=1->v.n=0\/v.n=1
 n0:v.kind≠1->v.kind≠2->v.n=0
 s0:v.kind≠3->v.kind≠4->v.s=[]
 all:∀p∈v.parts,p.aR d=true
theorem aX.fa{d:Nat}{v:aX}(h:v.aR (d+1)=true):v.YO d:=by
 rw[aX.aR,dk,j7]at h;obtain⟨hp,ha⟩:=h;unfold aX.jH aX.bare at hp;by_cases k1:v.kind=1
 ·rw[if_pos k1]at hp;simp at hp
  exact⟨.inl k1,fun _ _=>hp.1,by omega,by omega,by omega,by omega,fun _=>hp.2.2,by omega,fun _ _=>hp.2.1,ha⟩
 rw[if_neg k1]at hp;by_cases k2:v.kind=2
 ·rw[if_pos k2]at hp;simp at hp
  exact⟨.inr (.inl k2),fun _ _=>hp.1,by omega,by omega,by omega,by omega,by omega,by omega,fun _ _=>hp.2,ha⟩
 rw[if_neg k2]at hp;by_cases k3:v.kind=3
 ·rw[if_pos k3]at hp;simp at hp
  exact⟨.inr (.inr (.inl k3)),fun _ _=>hp.1,fun _=>hp.2.2,by omega,by omega,by omega,by omega,fun _ _=>hp.2.1,by omega,ha⟩
 rw[if_neg k3]at hp;by_cases k4:v.kind=4
 ·rw[if_pos k4]at hp;simp at hp
  exact⟨.inr (.inr (.inr (.inl k4))),fun _ _=>hp.1,by omega,fun _=>hp.2.2,by omega,by omega,by omega,fun _ _=>hp.2.1,by omega,ha⟩
 rw[if_neg k4]at hp;by_cases k5:v.kind=5
 ·rw[if_pos k5]at hp;simp at hp
  exact⟨.inr (.inr (.inr (.inr (.inl k5)))),by omega,by omega,by omega,fun _=>⟨hp.2.2.1,hp.2.2.2.1,hp.2.2.2.2.1,hp.2.2.2.2.2⟩,by omega,by omega,fun _ _=>hp.1,fun _ _=>hp.2.1,ha⟩
 rw[if_neg k5]at hp;by_cases k6:v.kind=6
 ·rw[if_pos k6]at hp;simp at hp
  exact⟨.inr (.inr (.inr (.inr (.inr k6)))),by omega,by omega,by omega,by omega,fun _=>⟨hp.2.2.1,hp.2.2.2.1,hp.2.2.2.2.1,hp.2.2.2.2.2⟩,by omega,fun _ _=>hp.1,fun _ _=>hp.2.1,ha⟩
 rw[if_neg k6]at hp;cases hp
def bk(i k sz:Nat)(es:List (List AV)):AV:=if es=[]then .ah else .sl (.bx i k) sz es
@[simp]theorem ayQ(x:Int):e_ 1 [[AV.int .u8 0]] [(0,.int .u8 x)]=some [[.int .u8 x]]:=rfl
section
variable{S T:St}(h:T.length=S.length)
include h in
theorem gT(l:List cF)(k:Nat):(T++l)[S.length+k]? =l[k]? :=by rw[<-h];exact get_at T l k
include h in
theorem gT0(l:List cF):(T++l)[S.length]? =l[0]? :=gT h l 0
include h in
theorem sT(l:List cF)(k:Nat)(b:cF):(T++l).set (S.length+k) b=T++l.set k b:=by rw[<-h];exact qW T l k b
include h in
theorem lT(sh:Sh)(l:List cF)(k off:Nat):aY (T++l) sh (.ptr (S.length+k) off)=match l[k]? with
 |some (.mem cs _ _)=>fC sh cs off
 |_=>none:=by rw[<-h];exact aa1 T sh l k off
include h in
theorem lT0(sh:Sh)(l:List cF)(off:Nat):aY (T++l) sh (.ptr S.length off)=match l[0]? with
 |some (cF.mem cs _ _)=>fC sh cs off
 |_=>none:=lT h sh l 0 off
include h in
theorem stT{v:AV}(hv:CO v)(l:List cF)(k off:Nat)(aa:List (Option Nat))(nb n:Nat):bg aa nb (T++l) n (.ptr (S.length+k) off) v=match l[k]? with
 |some (.mem cs bt false)=>if v.cells.length=n/\off+n<=cs.length then some (aa,T++l.set k (.mem (aL cs off v.cells) bt false))else none
 |_=>none:=by rw[<-h];exact K6 hv T l k off aa nb n
include h in
theorem TG{r_:List AV}(hp:ck r_=true)(l:List cF)(k off:Nat)(aa:List (Option Nat))(nb n:Nat):bg aa nb (T++l) n (.ptr (S.length+k) off) (.agg r_)=match l[k]? with
 |some (.mem cs bt false)=>if r_.length=n/\off+n<=cs.length then some (aa,T++l.set k (.mem (aL cs off r_) bt false))else none
 |_=>none:=by
 unfold bg;simp only[gT h];cases hl:l[k]? with
 |none=>rfl
 |some b=>
  cases b with
  |iter s p=>rfl
  |mem cs bt lk=>
   cases lk with
   |true=>rfl
   |false=>
    have h1:aS (aB (.agg r_))=true:=by simpa[aB,aS]using hp
    have h2:(aaq (.agg r_)=true/\(AV.agg r_).cells.length=n/\off+n<=cs.length/\(nb<=S.length+k\/aS (aB (.agg r_))=true))↔(r_.length=n/\off+n<=cs.length):=by
     constructor;·exact fun e=>⟨e.2.1,e.2.2.1⟩
     ·exact fun e=>⟨rfl,e.1,e.2,.inr h1⟩
    simp only[h2,dU,sT h];rfl
theorem uO{S T:St}(h:T.length=S.length){r_:List AV}(hp:ck r_=true)(l:List cF)(off:Nat)(aa:List (Option Nat))(nb n:Nat):bg aa nb (T++l) n (.ptr S.length off) (.agg r_)=match l[0]? with
 |some (cF.mem cs bt false)=>if r_.length=n/\off+n<=cs.length then some (aa,T++l.set 0 (.mem (aL cs off r_) bt false))else none
 |_=>none:=TG h hp l 0 off aa nb n
end
theorem dL{S:St}{j:Nat}{b:cF}(l:List cF)(h:j<S.length):(S++l).set j b=S.set j b++l:=List.set_append_left _ _ h
theorem cd{S:St}{j:Nat}{b:cF}(l:List cF)(h:S[j]? =some b):(S++l)[j]? =some b:=by rw[kP (fI.1 h).1];exact h
def dG(sz:Nat)(es:List (List AV)):AV:=if es=[]then .ah else .sl .none sz es
theorem nH(i k sz:Nat)(es:List (List AV)):aB (bk i k sz es)=dG sz es:=by unfold bk dG;split<;>rfl
@[simp]theorem pF(sz:Nat)(es:List (List AV)):cY (dG sz es)=iA sz es:=by unfold dG;cases es<;>rfl
theorem mQ{sz:Nat}{es:List (List AV)}(h:ct es=true):aB (dG sz es)=dG sz es/\aS (dG sz es)=true:=by
 unfold dG;split;·exact⟨rfl,rfl⟩
 ·exact⟨rfl,by simpa[aS]using h⟩
@[simp]theorem atm(r:jQ)(sz:Nat)(es:List (List AV)):bD (.sl r sz es)=.sl r sz es:=rfl
theorem vg(aa:List (Option Nat))(k sz:Nat)(es:List (List AV))(h:aa[k]? =some (some es.length)):a9 aa (.sl (.fr k) sz es)=(.sl .fresh sz es,aa.set k none):=by simp only[a9];rw[if_pos h]
@[simp]theorem aiB(sz:Nat)(es:List (List AV)):aw (.sl .fresh sz es)=ct es:=rfl
@[simp]theorem arj(r:jQ)(sz:Nat)(es:List (List AV)):bu (.sl r sz es)=true:=rfl
end
def wa(n:Int):bq:=if n<0 then bI (2*(-(n+1)).toNat+1)else bI (2*n.toNat)
def aM(s:bq):bq:=bI s.length++s
mutual
def aX.bytes:aX->bq
 |.mk k n s ns is ps=>UInt8.ofNat k.toNat::(if k=1 then[UInt8.ofNat n.toNat]else if k=2 then wa n else if k=3\/k=4 then aM s else bI ps.length++(if k=5 then aX.dt ns ps else aX.jI is ps))
def aX.dt:List bq->List aX->bq
 |n::ns,p::ps=>aM n++(aX.bytes p++aX.dt ns ps)
 |_,_=>[]
def aX.jI:List Int->List aX->bq
 |n::ns,p::ps=>bI n.toNat++(aX.bytes p++aX.jI ns ps)
 |_,_=>[]
end
namespace Rd
def int(r:Rd):Int × Rd:=match r.number 18446744073709551615 with
 |(n,r)=>(if n %2=1 then-((n/2:Nat):Int) -1 else((n/2:Nat):Int),r)
def name(r:Rd):bq × Rd:=match r.bytes 64 with
 |(s,r)=>(s,if dq s=true then r else r.fail 2)
def count(gM:Nat)(r:Rd):Nat × Rd:=match r.number 18446744073709551615 with
 |(n,r)=>if gM<n then(0,r.fail 3)else(n,r)
def atY(f:Rd->aX × Rd):Nat->List bq->List aX->Rd->List bq × List aX × Rd
 |0,ns,ps,r=>(ns,ps,r)
 |n+1,ns,ps,r=>if r.err.isSome=true then(ns,ps,r)else
  match r.name with
  |(s,r)=>match f (if goN none (ns++[s])=true then r else r.fail 2)with
   |(p,r)=>atY f n (ns++[s]) (ps++[p]) r
def elems(f:Rd->aX × Rd):Nat->List Int->List aX->Rd->List Int × List aX × Rd
 |0,is,ps,r=>(is,ps,r)
 |n+1,is,ps,r=>if r.err.isSome=true then(is,ps,r)else
  match r.number 18446744073709551615 with
  |(i,r)=>match f (if QN [] (is++[(i:Int)])=true then r else r.fail 2)with
   |(p,r)=>elems f n (is++[(i:Int)]) (ps++[p]) r
def fin{α:Type}(z:α)(x:α × Rd):α × Rd:=if x.2.err.isSome=true then(z,x.2)else x
def val:Nat->Rd->aX × Rd
 |0,r=>(.mk 0 0 [] [] [] [],(r.fail 4).byte.2)
 |d+1,r=>match r.byte with
  |(k,r)=>if r.err.isSome=true then(.mk 0 0 [] [] [] [],r)else
   fin (.mk 0 0 [] [] [] []) (
    if k=1 then(match r.bool with|(b,r)=>(.mk 1 (if b then 1 else 0) [] [] [] [],r))
    else if k=2 then(match r.int with|(n,r)=>(.mk 2 n [] [] [] [],r))
    else if k=3 then(match r.bytes 64 with|(s,r)=>(.mk 3 0 s [] [] [],r))
    else if k=4 then(match r.name with|(s,r)=>(.mk 4 0 s [] [] [],r))
    else if k=5 then(match r.count 8 with|(n,r)=>match atY (val d) n [] [] r with|(ns,ps,r)=>(.mk 5 0 [] ns [] ps,r))
    else if k=6 then(match r.count 12 with|(n,r)=>match elems (val d) n [] [] r with|(is,ps,r)=>(.mk 6 0 [] [] is ps,r))
    else(.mk k 0 [] [] [] [],r.fail 5))
end Rd
def rZ(s:dK):Bool:=if s.name=[]then decide (s.id≠0)else decide (s.id=0)&&dq s.name
def zf(p:List dK):Bool:=decide (p.length<=8)&&p.all rZ
def jX(s:dK):bq:=aM s.name++if s.name=[]then bI s.id.toNat else[]
def kB(p:List dK):bq:=bI p.length++p.flatMap jX
namespace Rd
def step(r:Rd):dK × Rd:=match r.bytes 64 with
 |(s,r)=>if s=[]then(match r.number 18446744073709551615 with
  |(n,r)=>(⟨[],n⟩,if rZ ⟨[],n⟩=true then r else r.fail 2))
  else(⟨s,0⟩,if rZ ⟨s,0⟩=true then r else r.fail 2)
def steps:Nat->List dK->Rd->List dK × Rd
 |0,p,r=>(p,r)
 |n+1,p,r=>if r.err.isSome=true then(p,r)else match r.step with
  |(s,r)=>steps n (p++[s]) r
def path(r:Rd):List dK × Rd:=match r.count 8 with
 |(n,r)=>fin [] (steps n [] r)
end Rd
def iH:List bq->List bq->Bool
 |_,[]=>true
 |seen,s::r=> !(seen.contains s)&&iH (seen++[s]) r
def bj.jH(s:bj):Bool:=
 if s.kind=1\/s.kind=2\/s.kind=3 then s.ar.isEmpty&&s.parts.isEmpty
 else if s.kind=4 then !s.ar.isEmpty&&(decide (s.ar.length<=8)&&s.ar.all dq)&&iH [] s.ar&&s.parts.isEmpty
 else if s.kind=5 then(goN none s.ar&&decide (s.ar.length<=8))&&decide (s.parts.length=s.ar.length)
 else if s.kind=6 then s.ar.isEmpty&&decide (s.parts.length=1)
 else false
def bj.aR:Nat->bj->Bool
 |0,_=>false
 |d+1,s=>s.jH&&s.parts.all (bj.aR d)
mutual
def bj.bytes:bj->bq
 |.mk k ws ps=>UInt8.ofNat k.toNat::((if k=4\/k=5 then bI ws.length else[])++(if k=4 then ws.flatMap aM else if k=5 then bj.dt ws ps else bj.eU ps))
def bj.dt:List bq->List bj->bq
 |w::ws,p::ps=>aM w++(bj.bytes p++bj.dt ws ps)
 |_,_=>[]
def bj.eU:List bj->bq
 |[]=>[]
 |p::ps=>bj.bytes p++bj.eU ps
end
namespace Rd
def counts(least:Nat)(r:Rd):Nat × Rd:=match r.number 18446744073709551615 with
 |(n,r)=>if r.err.isSome=true then(0,r)else if 8<n then(0,r.fail 3)else(n,if n<least then r.fail 2 else r)
def ar:Nat->List bq->Rd->List bq × Rd
 |0,ws,r=>(ws,r)
 |n+1,ws,r=>if r.err.isSome=true then(ws,r)else match r.bytes 64 with
  |(s,r)=>ar n (ws++[s]) (if dq s=true/\iH [] (ws++[s])=true then r else r.fail 2)
def fields(f:Rd->bj × Rd):Nat->List bq->List bj->Rd->List bq × List bj × Rd
 |0,ws,ps,r=>(ws,ps,r)
 |n+1,ws,ps,r=>if r.err.isSome=true then(ws,ps,r)else match r.bytes 64 with
  |(s,r)=>match f (if goN none (ws++[s])=true then r else r.fail 2)with
   |(p,r)=>fields f n (ws++[s]) (ps++[p]) r
def ad9:Nat->Rd->bj × Rd
 |0,r=>(.mk 0 [] [],(r.fail 4).byte.2)
 |d+1,r=>match r.byte with
  |(k,r)=>if r.err.isSome=true then(.mk 0 [] [],r)else
   fin (.mk 0 [] []) (
    if k=1\/k=2\/k=3 then(.mk k [] [],r)
    else if k=4 then(match r.counts 1 with|(n,r)=>match ar n [] r with|(ws,r)=>(.mk 4 ws [],r))
    else if k=5 then(match r.counts 0 with|(n,r)=>match fields (ad9 d) n [] [] r with|(ws,ps,r)=>(.mk 5 ws ps,r))
    else if k=6 then(match ad9 d r with|(p,r)=>(.mk 6 [] [p],r))
    else(.mk k [] [],r.fail 5))
end Rd
namespace Rd
@[simp]theorem amV(r:Rd)(k:Nat):(r.go k).err=r.err:=rfl
@[simp]theorem aCV(r:Rd)(k:Nat):(r.go k).b=r.b:=rfl
@[simp]theorem ari(r:Rd)(j k:Nat):(r.go j).go k=r.go (j+k):=by simp[Rd.go,pv]
theorem agq(r:Rd)(k:Nat):(r.go k).left=r.left.drop k:=by simp[Rd.go,Rd.left,Hl]
theorem ajl{r:Rd}{a t:bq}(h:r.left=a++t):(r.go a.length).left=t:=by rw[agq,h];simp
theorem alW{r:Rd}(he:r.err=none){c:UInt8}{t:bq}(h:r.left=c::t):r.byte=(c.toNat,r.go 1):=by unfold Rd.byte;rw[he];simp only[h]
theorem Pu{r:Rd}(he:r.err=none){n:Nat}(hn:n<18446744073709551616){t:bq}(h:r.left=bI n++t){gM:Nat}(hm:n<=gM):r.number gM=(n,r.go (bI n).length):=by unfold Rd.number;rw[he];simp only[h,UF hn];rw[if_neg (by omega)]
theorem ajm{r:Rd}(he:r.err=none){s t:bq}(hs:s.length<18446744073709551616)(h:r.left=aM s++t){gM:Nat}(hm:s.length<=gM):r.bytes gM=(s,r.go (aM s).length):=by unfold aM at h;rw[fB]at h;unfold Rd.bytes;rw[he];simp only[h,UF hs];rw[if_neg (by omega),if_neg (by simp)];simp[aM]
theorem apN{r:Rd}(he:r.err=none){n:Int}(h0: -9223372036854775808<=n)(h1:n<9223372036854775808){t:bq}(h:r.left=wa n++t):r.int=(n,r.go (wa n).length):=by
 unfold Rd.int;unfold wa at h⊢;split at h
 ·rename_i hn
  rw[Pu he (by omega) h (by omega)];simp only[if_pos hn];rw[if_pos (by omega)];congr 1;omega
 ·rename_i hn
  rw[Pu he (by omega) h (by omega)];simp only[if_neg hn];rw[if_neg (by omega)];congr 1;omega
theorem Zs:∀(a b:List bq)(p:Option bq),goN p (a++b)=true->goN p a=true
 |[],b,p,h=>rfl
 |x::a,b,p,h=>by simp only[Fm,goN,dk]at h⊢;exact⟨h.1,Zs a b _ h.2⟩
theorem afd:∀(a b seen:List Int),QN seen (a++b)=true->QN seen a=true
 |[],b,p,h=>rfl
 |x::a,b,p,h=>by simp only[Fm,QN,dk]at h⊢;exact⟨h.1,afd a b _ h.2⟩
end Rd
theorem aX.sP{w:aX}{k n:Int}{s:bq}{ns:List bq}{is:List Int}{ps:List aX}(h0:w.kind=k)(h1:w.n=n)(h2:w.s=s)(h3:w.aU=ns)(h4:w.ids=is)(h5:w.parts=ps):aX.mk k n s ns is ps=w:=by subst h0;subst h1;subst h2;subst h3;subst h4;subst h5;cases w;rfl
theorem aX.lS(v:aX):v.bytes=UInt8.ofNat v.kind.toNat::(if v.kind=1 then[UInt8.ofNat v.n.toNat]else if v.kind=2 then wa v.n else if v.kind=3\/v.kind=4 then aM v.s else bI v.parts.length++(if v.kind=5 then aX.dt v.aU v.parts else aX.jI v.ids v.parts)):=by cases v;rw[aX.bytes];rfl
theorem ajj{s:bq}(h:dq s=true):s≠[]:=by rintro rfl;simp[dq]at h
theorem bj.lS(s:bj):s.bytes=UInt8.ofNat s.kind.toNat::((if s.kind=4\/s.kind=5 then bI s.ar.length else[])++(if s.kind=4 then s.ar.flatMap aM else if s.kind=5 then bj.dt s.ar s.parts else bj.eU s.parts)):=by cases s;rw[bj.bytes];rfl
theorem bj.sP{s:bj}{k:Int}{ws:List bq}{ps:List bj}(h0:s.kind=k)(h1:s.ar=ws)(h2:s.parts=ps):bj.mk k ws ps=s:=by subst h0;subst h1;subst h2;cases s;rfl
structure bj.YO(d:Nat)(s:bj):Prop where
 kind:s.kind=1\/s.kind=2\/s.kind=3\/s.kind=4\/s.kind=5\/s.kind=6
 k13:s.kind=1\/s.kind=2\/s.kind=3->s.ar=[]/\s.parts=[]
 k4:s.kind=4->s.ar≠[]/\s.ar.length<=8/\(∀w∈s.ar,dq w=true)/\iH [] s.ar=true/\s.parts=[]
 k5:s.kind=5->goN none s.ar=true/\s.ar.length<=8/\s.parts.length=s.ar.length
 k6:s.kind=6->s.ar=[]/\s.parts.length=1
 all:∀p∈s.parts,p.aR d=true
theorem bj.fa{d:Nat}{s:bj}(h:s.aR (d+1)=true):s.YO d:=by
 rw[bj.aR,dk,j7]at h;obtain⟨hp,ha⟩:=h;unfold bj.jH at hp;by_cases k1:s.kind=1\/s.kind=2\/s.kind=3
 ·rw[if_pos k1]at hp;simp at hp
  exact⟨by omega,fun _=>hp,by omega,by omega,by omega,ha⟩
 rw[if_neg k1]at hp;by_cases k4:s.kind=4
 ·rw[if_pos k4]at hp;simp at hp
  exact⟨by omega,fun k=>absurd k k1,fun _=>⟨hp.1.1.1,hp.1.1.2.1,hp.1.1.2.2,hp.1.2,hp.2⟩,by omega,by omega,ha⟩
 rw[if_neg k4]at hp;by_cases k5:s.kind=5
 ·rw[if_pos k5]at hp;simp at hp
  exact⟨by omega,fun k=>absurd k k1,by omega,fun _=>⟨hp.1.1,hp.1.2,hp.2⟩,by omega,ha⟩
 rw[if_neg k5]at hp;by_cases k6:s.kind=6
 ·rw[if_pos k6]at hp;simp at hp
  exact⟨by omega,fun k=>absurd k k1,by omega,by omega,fun _=>hp,ha⟩
 rw[if_neg k6]at hp;cases hp
theorem Qw:∀(a b seen:List bq),iH seen (a++b)=true->iH seen a=true
 |[],b,p,h=>rfl
 |x::a,b,p,h=>by simp only[Fm,iH,dk]at h⊢;exact⟨h.1,Qw a b _ h.2⟩
def oc:aX:=.mk 0 0 [] [] [] []
def isZero(v:aX):Bool:=decide (v.kind=0)&&decide (v.n=0)&&v.s.isEmpty&&v.aU.isEmpty&&v.ids.isEmpty&&v.parts.isEmpty
theorem AM(v:aX):isZero v=true↔v=oc:=by
 simp only[isZero,dk,decide_eq_true_eq,List.isEmpty_iff,and_assoc];constructor;·rintro⟨a,b,c,d,e,f⟩;exact(aX.sP a b c d e f).symm
 ·rintro rfl;exact⟨rfl,rfl,rfl,rfl,rfl,rfl⟩
def Oe(o:ph):Bool:=zf o.path&&(
 if o.kind=1 then decide (o.id=0)&&decide (o.after=0)&&o.value.aR 5
 else if o.kind=2 then decide (o.id≠0)&&decide (o.id≠o.after)&&o.value.aR 5
 else if o.kind=3 then decide (o.id≠0)&&decide (o.after=0)&&isZero o.value
 else if o.kind=4 then decide (o.id≠0)&&decide (o.id≠o.after)&&isZero o.value
 else false)
def wm(o:ph):bq:=UInt8.ofNat o.kind.toNat::(kB o.path++((if 1<o.kind then bI o.id.toNat else[])++((if o.kind=2\/o.kind=4 then bI o.after.toNat else[])++(if o.kind=1\/o.kind=2 then o.value.bytes else[]))))
def apO:ph:=⟨0,[],0,0,oc⟩
namespace Rd
def akD(k:Nat)(r:Rd):Nat × Rd:=if k=2\/k=3\/k=4 then(match r.number 18446744073709551615 with|(n,r)=>(n,if n=0 then r.fail 2 else r))else(0,r)
def alX(k id:Nat)(r:Rd):Nat × Rd:=if k=2\/k=4 then(match r.number 18446744073709551615 with|(n,r)=>(n,if n=id then r.fail 2 else r))else(0,r)
def atZ(k:Nat)(r:Rd):aX × Rd:=if k=1\/k=2 then r.val 5 else(oc,r)
def op(r:Rd):ph × Rd:=match r.byte with
 |(k,r)=>match(if 1<=k/\k<=4 then r else r.fail 5).path with
  |(p,r)=>match akD k r with
   |(id,r)=>match alX k id r with
    |(af,r)=>match atZ k r with
     |(v,r)=>fin apO (⟨k,p,id,af,v⟩,r)
end Rd
mutual
def aX.tQ:aX->bj->Bool
 |.mk k n s ns is ps,t=>decide (k=t.kind)&&((if k=4 then t.ar.contains s else true)&&((if k=5 then decide (ns=t.ar)else true)&&(if k=6 then aX.Jk ps t else aX.uq ps t.parts)))
def aX.uq:List aX->List bj->Bool
 |[],_=>true
 |p::ps,s::ss=>aX.tQ p s&&aX.uq ps ss
 |_::_,[]=>false
def aX.Jk:List aX->bj->Bool
 |[],_=>true
 |p::ps,t=>(match t.parts with|s::_=>aX.tQ p s|[]=>false)&&aX.Jk ps t
end
def ni(v:aX)(s:bj):Bool:=v.aR 5&&s.aR 5&&v.tQ s
def iF(v:aX):Bool:=v.aR 5&&decide (v.kind<=4)
def nI(s:bj):Bool:=decide (s.kind=0)&&s.ar.isEmpty&&s.parts.isEmpty
theorem Qj(s:bj):nI s=true↔s=.mk 0 [] []:=by
 simp only[nI,dk,decide_eq_true_eq,List.isEmpty_iff,and_assoc];constructor;·rintro⟨a,b,c⟩;exact(bj.sP a b c).symm
 ·rintro rfl;exact⟨rfl,rfl,rfl⟩
def uP(t:bj)(p:dQ):Bool:=iF p.x&&ni p.y t
def bn.jH(l:bn):Bool:=
 decide (1<=l.kind)&&decide (l.kind<=10)&&dq l.a&&(if l.kind=1\/l.kind=4\/l.kind=5 then dq l.b&&decide (l.b≠l.a)else l.b.isEmpty)
 &&(if l.kind=2\/l.kind=3\/l.kind=8 then ni l.base l.type else nI l.type&&isZero l.base)
 &&(if l.kind=8 then decide (l.type.kind<=4)&&iF l.back&&decide (l.aO.length<=8)&&l.aO.all (uP l.type)else isZero l.back&&l.aO.isEmpty)
 &&(if l.kind=9\/l.kind=10 then decide (l.bf.length=1)else l.bf.isEmpty)
def bn.aR:Nat->bn->Bool
 |0,_=>false
 |d+1,l=>l.jH&&l.bf.all (bn.aR d)
def j8(p:dQ):bq:=p.x.bytes++p.y.bytes
mutual
def bn.bytes:bn->bq
 |.mk k a b t x y ps is=>UInt8.ofNat k.toNat::(aM a++((if k=1\/k=4\/k=5 then aM b else[])++((if k=2\/k=3\/k=8 then t.bytes++x.bytes else[])++((if k=8 then y.bytes++(bI ps.length++ps.flatMap j8)else[])++bn.eU is))))
def bn.eU:List bn->bq
 |[]=>[]
 |l::r=>bn.bytes l++bn.eU r
end
theorem bn.lS(l:bn):l.bytes=UInt8.ofNat l.kind.toNat::(aM l.a++((if l.kind=1\/l.kind=4\/l.kind=5 then aM l.b else[])++((if l.kind=2\/l.kind=3\/l.kind=8 then l.type.bytes++l.base.bytes else[])++((if l.kind=8 then l.back.bytes++(bI l.aO.length++l.aO.flatMap j8)else[])++bn.eU l.bf)))):=by cases l;rw[bn.bytes];rfl
def R8:bn:=.mk 0 [] [] (.mk 0 [] []) oc oc [] []
namespace Rd
def afe(other:bq)(r:Rd):bq × Rd:=match r.bytes 64 with
 |(s,r)=>(s,if dq s=true/\s≠other then r else r.fail 2)
def checked(f:aX->Bool)(r:Rd):aX × Rd:=match r.val 5 with
 |(v,r)=>(v,if r.err.isSome=true\/f v=true then r else r.fail 2)
def prs(t:bj):Nat->List dQ->Rd->List dQ × Rd
 |0,ps,r=>(ps,r)
 |n+1,ps,r=>if r.err.isSome=true then(ps,r)else match r.checked iF with
  |(x,r)=>match r.checked (ni · t)with
   |(y,r)=>prs t n (ps++[⟨x,y⟩]) r
def lnB(k:Nat)(a:bq)(r:Rd):bq × Rd:=if k=1\/k=4\/k=5 then r.afe a else([],r)
def lnT(k:Nat)(r:Rd):bj × aX × Rd:=if k=2\/k=3\/k=8 then(match r.ad9 5 with
 |(t,r)=>match(if k=8/\r.err.isSome=false/\¬(1<=t.kind/\t.kind<=4)then r.fail 2 else r).checked (ni · t)with
  |(x,r)=>(t,x,r))
 else(.mk 0 [] [],oc,r)
def lnP(k:Nat)(t:bj)(r:Rd):aX × List dQ × Rd:=if k=8 then(match r.checked iF with
 |(y,r)=>match r.count 8 with
  |(n,r)=>match prs t n [] r with
   |(ps,r)=>(y,ps,r))
 else(oc,[],r)
def lens:Nat->Rd->bn × Rd
 |0,r=>(R8,(r.fail 4).byte.2)
 |d+1,r=>match r.byte with
  |(k,r)=>match(if 1<=k/\k<=10 then r else r.fail 5)with
   |r=>if r.err.isSome=true then(R8,r)else match r.afe []with
    |(a,r)=>match lnB k a r with
     |(b,r)=>match lnT k r with
      |(t,x,r)=>match lnP k t r with
       |(y,ps,r)=>if k=9\/k=10 then(match lens d r with|(i,r)=>fin R8 (.mk k a b t x y ps [i],r))else fin R8 (.mk k a b t x y ps [],r)
end Rd
theorem OY{α β:Type}(l:List β)(p:β->Bool)(L:Nat->α)(E R:α)(h:∀i x,l[i]? =some x->L i=if p x=true then L (i+1)else R)(hf:L l.length=E):
 L 0=if l.all p=true then E else R:=by
 have key:∀d i,i+d=l.length->L i=if(l.drop i).all p=true then E else R:=by
  intro d;induction d with
  |zero=>
   intro i hi;have MP:i=l.length:=by omega
   subst MP;rw[hf,if_pos];simp
  |succ d ih=>
   intro i hi;obtain⟨x,hx⟩:=iN (l:=l) (i:=i) (by omega);rw[h i x hx,aJ hx,TF];by_cases hp:p x=true;·rw[if_pos hp,ih (i+1) (by omega),hp,MK]
   ·rw[if_neg hp,if_neg]
    simp[hp]
 simpa using key l.length 0 (by omega)
theorem Y8(a b:bq):(Op.bytesLess b a||decide (b=a))= !Op.bytesLess a b:=by
 induction a generalizing b with
 |nil=>cases b with
  |nil=>rfl
  |cons y b=>rfl
 |cons x a ih=>
  cases b with
  |nil=>rfl
  |cons y b=>
   simp only[Op.bytesLess];by_cases h:x=y
   ·subst h
    have:=ih b;simp at this⊢;exact this
   ·have h1:¬y=x:=fun e=>h e.symm
    by_cases h2:x<y
    ·have h3:¬y<x:=by rw[YN];exact UInt8.le_of_lt h2
     simp[h1,h2,h3]
    ·have h3:y<x:=by
      rcases UInt8.lt_or_eq_of_le (YN.1 h2)with h4|h4;·exact h4
      ·exact absurd h4 h1
     simp[h,h1,h2,h3]
theorem TV:∀a b c:bq,Op.bytesLess a b=true->Op.bytesLess b c=true->Op.bytesLess a c=true
 |[],[],c,h,_=>by simp[Op.bytesLess]at h
 |_::_,[],c,h,_=>by simp[Op.bytesLess]at h
 |_,_::_,[],_,h=>by simp[Op.bytesLess]at h
 |[],_::_,_::_,_,_=>rfl
 |x::a,y::b,z::c,h1,h2=>by
  simp only[Op.bytesLess]at h1 h2⊢;by_cases e1:x=y
  ·subst e1
   by_cases e2:x=z
   ·subst e2
    simp at h1 h2⊢;exact TV a b c h1 h2
   ·simp[e2]at h2⊢
    exact h2
  ·simp[e1]at h1
   by_cases e2:y=z
   ·subst e2
    simp[e1];exact h1
   ·simp[e2]at h2
    have h3:x<z:=UInt8.lt_trans h1 h2;have h4:¬x=z:=by rintro rfl;exact UInt8.lt_irrefl _ h3
    simp[h3]
theorem apC(a:bq):Op.bytesLess a a=false:=by have:=Y8 a a;simp at this;exact this
def Up(l:List bq):Prop:=l.Pairwise fun a b=>Op.bytesLess a b=true
theorem ad3:∀(l:List bq)(p:Option bq),goN p l=true↔(∀x∈l,dq x=true)/\Up l/\(match p with|none=>True|some q=>∀x∈l,Op.bytesLess q x=true)
 |[],p=>by cases p<;>simp[goN,Up]
 |s::r,p=>by
  have ih:=ad3 r (some s);simp only[goN,dk,ih,Up,List.pairwise_cons,adD];cases p with
  |none=>
   constructor;·rintro⟨⟨a,_⟩,b,c,d⟩;exact⟨⟨a,b⟩,⟨d,c⟩,trivial⟩
   ·rintro⟨⟨a,b⟩,⟨d,c⟩,_⟩;exact⟨⟨a,rfl⟩,b,c,d⟩
  |some q=>
   simp only;constructor;·rintro⟨⟨a,e⟩,b,c,d⟩;exact⟨⟨a,b⟩,⟨d,c⟩,e,fun x hx=>TV _ _ _ e (d x hx)⟩
   ·rintro⟨⟨a,b⟩,⟨d,c⟩,e,_⟩;exact⟨⟨a,e⟩,b,c,d⟩
theorem BT:∀(l seen:List bq),iH seen l=true↔l.Nodup/\∀x∈l,x∉seen
 |[],seen=>by simp[iH]
 |s::r,seen=>by
  have ih:=BT r (seen++[s]);simp only[iH,dk,ih,Ol,adD,P3,adr,decide_eq_false_iff_not,MJ,Tx,not_or];constructor;·rintro⟨a,b,c⟩;exact⟨⟨fun h=>(c s h).2 rfl,b⟩,a,fun x hx=>(c x hx).1⟩
  ·rintro⟨⟨a,b⟩,c,d⟩;exact⟨c,b,fun x hx=>⟨d x hx,fun e=>a (e▸hx)⟩⟩
def Kb(l:List bq):Nat->Bool
 |0=>true
 |i+1=> !(Op.bytesLess (l.getD (i+1) []) (l.getD i []))&&Kb l i
theorem abL(l:List bq):∀k,Kb l k=true↔∀i<k,Op.bytesLess (l.getD (i+1) []) (l.getD i [])=false
 |0=>by simp[Kb]
 |k+1=>by
  rw[Kb,dk,abL l k];constructor
  ·rintro⟨a,b⟩ i hi
   by_cases e:i=k;·subst e;simpa using a
   ·exact b i (by omega)
  ·intro g
   exact⟨by simpa using g k (by omega),fun i hi=>g i (by omega)⟩
theorem ai3{a b:bq}(h:Op.bytesLess b a=false)(hn:a≠b):Op.bytesLess a b=true:=by
 have:=Y8 a b;rw[h]at this;simp at this;cases e:Op.bytesLess a b with
 |true=>rfl
 |false=>rw[e]at this;simp at this;exact absurd this.symm hn
theorem apD(l:List bq):Up l↔l.Nodup/\Kb l (l.length -1)=true:=by
 rw[abL];constructor
 ·intro h
  refine⟨Tz (fun{a b} hab e=>?_) h,fun i hi=>?_⟩;·subst e;rw[apC]at hab;cases hab
  ·have h2:l.getD i []=l[i]:=by simp[tE,Ct (show i<l.length by omega)]
   have h3:l.getD (i+1) []=l[i+1]:=by simp[tE,Ct (show i+1<l.length by omega)]
   rw[h2,h3];have h4:=adx.1 h i (i+1) (by omega) (by omega) (by omega);have h5:=Y8 l[i+1] l[i];rw[h4]at h5;simpa using h5.symm
 ·rintro⟨hn,hs⟩
  refine adx.2 ?_;have key:∀d i(hi:i<l.length)(hj:i+(d+1)<l.length),Op.bytesLess l[i] l[i+(d+1)]=true:=by
   intro d;have one:∀i(hj:i+1<l.length),Op.bytesLess l[i] l[i+1]=true:=by
    intro i hj;have h2:l.getD i []=l[i]:=by simp[tE,Ct (show i<l.length by omega)]
    have h3:l.getD (i+1) []=l[i+1]:=by simp[tE,Ct hj]
    have:=hs i (by omega);rw[h2,h3]at this;refine ai3 this fun e=>?_;exact adx.1 hn i (i+1) (by omega) hj (by omega) e
   induction d with
   |zero=>intro i hi hj;exact one i hj
   |succ d ih=>intro i hi hj;exact TV _ _ _ (ih i hi (by omega)) (one (i+(d+1)) (by omega))
  intro i j hi hj hij;have:=key (j -i -1) i hi (by omega);have e:i+(j -i -1+1)=j:=by omega
  simpa only[e]using this
theorem XA(l:List bq):goN none l=(l.all dq&&(Kb l (l.length -1)&&iH [] l)):=by
 rw[lQ,ad3,apD,dk,dk,BT,j7];simp only[TA,not_false_eq_true,implies_true,and_true];constructor;·rintro⟨a,b,c⟩;exact⟨a,c,b⟩
 ·rintro⟨a,c,b⟩;exact⟨a,b,c⟩
theorem ux(g:FuncId)(hg:nk.rP g=none)(mC:u9 g=false)(j:Nat)(F:bj->Bool)(l:List (bj))(hl:l.length<9223372036854775808)(S:St)
 (hF:∀x∈l,DF ax nk g [.agg x.ai,.ptr j 0] S=some (.bool (F x),S)):DF ax nk 200 [oU l,.fn g [] [.ptr j 0]] S=some (.bool (l.any F),S):=by
 have key:∃k:Int,(0<=k↔l.any F=true)/\DF ax nk 205 [oU l,.fn g [] [.ptr j 0]] S=some (.int .i64 k,S):=by
  rw[uJ,ak jP.eq_1];have key:∀d i,i+d=l.length->
   ((l.drop i).any F=false->DC ax nk (.loop bE) ⟨[(0,oU l),(1,.fn g [] [.ptr j 0]),(7,.int .i64 l.length),(8,.int .i64 (i:Nat))],[],S.length⟩ S=some (.exit 0,⟨[],[],S.length⟩,S))/\
   ((l.drop i).any F=true->∃k:Nat,DC ax nk (.loop bE) ⟨[(0,oU l),(1,.fn g [] [.ptr j 0]),(7,.int .i64 l.length),(8,.int .i64 (i:Nat))],[],S.length⟩ S=some (.ret,⟨[(4,.int .i64 k)],[],S.length⟩,S)):=by
   intro d;induction d with
   |zero=>
    intro i hi;have h5:¬i<l.length:=by omega
    have h6:l.drop i=[]:=dV (by omega);refine⟨fun _=>?_,fun h=>by simp[h6]at h⟩;rw[aj,ak bE.eq_1];simp[h5]
   |succ d ih=>
    intro i hi;have h3:i<l.length:=by omega
    obtain⟨y,hy,gg⟩:=aE (l:=l) (i:=i) (by omega);rw[aJ hy];obtain⟨JG,MZ⟩:=ih (i+1) (by omega);have hw:=aV (i:=i) (by omega);have hc:=hF y (eT hy);simp at hw;cases hx:F y
    ·rw[hx]at hc
     have step:DC ax nk (.loop bE) ⟨[(0,oU l),(1,.fn g [] [.ptr j 0]),(7,.int .i64 l.length),(8,.int .i64 (i:Nat))],[],S.length⟩ S=DC ax nk (.loop bE) ⟨[(0,oU l),(1,.fn g [] [.ptr j 0]),(7,.int .i64 l.length),(8,.int .i64 ((i+1:Nat):Int))],[],S.length⟩ S:=by rw[aj,ak bE.eq_1];simp[h3,gg,hg,mC,hc];rw[ae bE.eq_1];simp[hw]
     rw[step];refine⟨fun h=>JG (by simpa[hx]using h),fun h=>MZ (by simpa[hx]using h)⟩
    ·rw[hx]at hc
     refine⟨fun h=>by simp[hx]at h,fun _=>⟨i, ?_⟩⟩;rw[aj,ak bE.eq_1];simp[h3,gg,hg,mC,hc]
  obtain⟨h1,h2⟩:=key l.length 0 (by omega);simp only[jS]at h1 h2;cases hx:l.any F
  ·have e:=h1 hx
   simp at e;refine⟨-1,by simp, ?_⟩;simp;rw[ae bE.eq_1];simp[e]
  ·obtain⟨k,e⟩:=h2 hx
   simp at e;refine⟨k,by simp, ?_⟩;simp;rw[ae bE.eq_1];simp[e]
 rw[sO,ak jf.eq_1];obtain⟨k,h1,h2⟩:=key;have e:decide (0<=k)=l.any F:=by rw[lQ];simpa using h1
 simp[h2,e]
theorem vm(g:FuncId)(hg:nk.rP g=none)(mC:u9 g=false)(j:Nat)(F:dQ->Bool)(l:List (dQ))(hl:l.length<9223372036854775808)(S:St)
 (hF:∀x∈l,DF ax nk g [.agg x.ai,.ptr j 0] S=some (.bool (F x),S)):DF ax nk 174 [nj l,.fn g [] [.ptr j 0]] S=some (.bool (l.any F),S):=by
 have key:∃k:Int,(0<=k↔l.any F=true)/\DF ax nk 196 [nj l,.fn g [] [.ptr j 0]] S=some (.int .i64 k,S):=by
  rw[xo,ak ku.eq_1];have key:∀d i,i+d=l.length->
   ((l.drop i).any F=false->DC ax nk (.loop bK) ⟨[(0,nj l),(1,.fn g [] [.ptr j 0]),(7,.int .i64 l.length),(8,.int .i64 (i:Nat))],[],S.length⟩ S=some (.exit 0,⟨[],[],S.length⟩,S))/\
   ((l.drop i).any F=true->∃k:Nat,DC ax nk (.loop bK) ⟨[(0,nj l),(1,.fn g [] [.ptr j 0]),(7,.int .i64 l.length),(8,.int .i64 (i:Nat))],[],S.length⟩ S=some (.ret,⟨[(4,.int .i64 k)],[],S.length⟩,S)):=by
   intro d;induction d with
   |zero=>
    intro i hi;have h5:¬i<l.length:=by omega
    have h6:l.drop i=[]:=dV (by omega);refine⟨fun _=>?_,fun h=>by simp[h6]at h⟩;rw[aj,ak bK.eq_1];simp[h5]
   |succ d ih=>
    intro i hi;have h3:i<l.length:=by omega
    obtain⟨y,hy,gg⟩:=aE (l:=l) (i:=i) (by omega);rw[aJ hy];obtain⟨JG,MZ⟩:=ih (i+1) (by omega);have hw:=aV (i:=i) (by omega);have hc:=hF y (eT hy);simp at hw;cases hx:F y
    ·rw[hx]at hc
     have step:DC ax nk (.loop bK) ⟨[(0,nj l),(1,.fn g [] [.ptr j 0]),(7,.int .i64 l.length),(8,.int .i64 (i:Nat))],[],S.length⟩ S=DC ax nk (.loop bK) ⟨[(0,nj l),(1,.fn g [] [.ptr j 0]),(7,.int .i64 l.length),(8,.int .i64 ((i+1:Nat):Int))],[],S.length⟩ S:=by rw[aj,ak bK.eq_1];simp[h3,gg,hg,mC,hc];rw[ae bK.eq_1];simp[hw]
     rw[step];refine⟨fun h=>JG (by simpa[hx]using h),fun h=>MZ (by simpa[hx]using h)⟩
    ·rw[hx]at hc
     refine⟨fun h=>by simp[hx]at h,fun _=>⟨i, ?_⟩⟩;rw[aj,ak bK.eq_1];simp[h3,gg,hg,mC,hc]
  obtain⟨h1,h2⟩:=key l.length 0 (by omega);simp only[jS]at h1 h2;cases hx:l.any F
  ·have e:=h1 hx
   simp at e;refine⟨-1,by simp, ?_⟩;simp;rw[ae bK.eq_1];simp[e]
  ·obtain⟨k,e⟩:=h2 hx
   simp at e;refine⟨k,by simp, ?_⟩;simp;rw[ae bK.eq_1];simp[e]
 rw[uo,ak jA.eq_1];obtain⟨k,h1,h2⟩:=key;have e:decide (0<=k)=l.any F:=by rw[lQ];simpa using h1
 simp[h2,e]
theorem vC(g:FuncId)(hg:nk.rP g=none)(mC:u9 g=false)(F:dK->Bool)(l:List (dK))(hl:l.length<9223372036854775808)(S:St)
 (hF:∀x∈l,DF ax nk g [.agg x.ai] S=some (.bool (F x),S)):DF ax nk 132 [eD l,.fn g [] []] S=some (.bool (l.any F),S):=by
 have key:∃k:Int,(0<=k↔l.any F=true)/\DF ax nk 168 [eD l,.fn g [] []] S=some (.int .i64 k,S):=by
  rw[xn,ak kt.eq_1];have key:∀d i,i+d=l.length->
   ((l.drop i).any F=false->DC ax nk (.loop bJ) ⟨[(0,eD l),(1,.fn g [] []),(7,.int .i64 l.length),(8,.int .i64 (i:Nat))],[],S.length⟩ S=some (.exit 0,⟨[],[],S.length⟩,S))/\
   ((l.drop i).any F=true->∃k:Nat,DC ax nk (.loop bJ) ⟨[(0,eD l),(1,.fn g [] []),(7,.int .i64 l.length),(8,.int .i64 (i:Nat))],[],S.length⟩ S=some (.ret,⟨[(4,.int .i64 k)],[],S.length⟩,S)):=by
   intro d;induction d with
   |zero=>
    intro i hi;have h5:¬i<l.length:=by omega
    have h6:l.drop i=[]:=dV (by omega);refine⟨fun _=>?_,fun h=>by simp[h6]at h⟩;rw[aj,ak bJ.eq_1];simp[h5]
   |succ d ih=>
    intro i hi;have h3:i<l.length:=by omega
    obtain⟨y,hy,gg⟩:=aE (l:=l) (i:=i) (by omega);rw[aJ hy];obtain⟨JG,MZ⟩:=ih (i+1) (by omega);have hw:=aV (i:=i) (by omega);have hc:=hF y (eT hy);simp at hw;cases hx:F y
    ·rw[hx]at hc
     have step:DC ax nk (.loop bJ) ⟨[(0,eD l),(1,.fn g [] []),(7,.int .i64 l.length),(8,.int .i64 (i:Nat))],[],S.length⟩ S=DC ax nk (.loop bJ) ⟨[(0,eD l),(1,.fn g [] []),(7,.int .i64 l.length),(8,.int .i64 ((i+1:Nat):Int))],[],S.length⟩ S:=by rw[aj,ak bJ.eq_1];simp[h3,gg,hg,mC,hc];rw[ae bJ.eq_1];simp[hw]
     rw[step];refine⟨fun h=>JG (by simpa[hx]using h),fun h=>MZ (by simpa[hx]using h)⟩
    ·rw[hx]at hc
     refine⟨fun h=>by simp[hx]at h,fun _=>⟨i, ?_⟩⟩;rw[aj,ak bJ.eq_1];simp[h3,gg,hg,mC,hc]
  obtain⟨h1,h2⟩:=key l.length 0 (by omega);simp only[jS]at h1 h2;cases hx:l.any F
  ·have e:=h1 hx
   simp at e;refine⟨-1,by simp, ?_⟩;simp;rw[ae bJ.eq_1];simp[e]
  ·obtain⟨k,e⟩:=h2 hx
   simp at e;refine⟨k,by simp, ?_⟩;simp;rw[ae bJ.eq_1];simp[e]
 rw[uj,ak jx.eq_1];obtain⟨k,h1,h2⟩:=key;have e:decide (0<=k)=l.any F:=by rw[lQ];simpa using h1
 simp[h2,e]
theorem ye(g:FuncId)(hg:nk.rP g=none)(mC:u9 g=false)(F:bq->Bool)(l:List (bq))(hl:l.length<9223372036854775808)(S:St)
 (hF:∀x∈l,DF ax nk g [.str x] S=some (.bool (F x),S)):DF ax nk 207 [cw l,.fn g [] []] S=some (.bool (l.any F),S):=by
 have key:∃k:Int,(0<=k↔l.any F=true)/\DF ax nk 210 [cw l,.fn g [] []] S=some (.int .i64 k,S):=by
  rw[zE,ak kY.eq_1];have key:∀d i,i+d=l.length->
   ((l.drop i).any F=false->DC ax nk (.loop bT) ⟨[(0,cw l),(1,.fn g [] []),(7,.int .i64 l.length),(8,.int .i64 (i:Nat))],[],S.length⟩ S=some (.exit 0,⟨[],[],S.length⟩,S))/\
   ((l.drop i).any F=true->∃k:Nat,DC ax nk (.loop bT) ⟨[(0,cw l),(1,.fn g [] []),(7,.int .i64 l.length),(8,.int .i64 (i:Nat))],[],S.length⟩ S=some (.ret,⟨[(4,.int .i64 k)],[],S.length⟩,S)):=by
   intro d;induction d with
   |zero=>
    intro i hi;have h5:¬i<l.length:=by omega
    have h6:l.drop i=[]:=dV (by omega);refine⟨fun _=>?_,fun h=>by simp[h6]at h⟩;rw[aj,ak bT.eq_1];simp[h5]
   |succ d ih=>
    intro i hi;have h3:i<l.length:=by omega
    obtain⟨y,hy,gg⟩:=aE (l:=l) (i:=i) (by omega);rw[aJ hy];obtain⟨JG,MZ⟩:=ih (i+1) (by omega);have hw:=aV (i:=i) (by omega);have hc:=hF y (eT hy);simp at hw;cases hx:F y
    ·rw[hx]at hc
     have step:DC ax nk (.loop bT) ⟨[(0,cw l),(1,.fn g [] []),(7,.int .i64 l.length),(8,.int .i64 (i:Nat))],[],S.length⟩ S=DC ax nk (.loop bT) ⟨[(0,cw l),(1,.fn g [] []),(7,.int .i64 l.length),(8,.int .i64 ((i+1:Nat):Int))],[],S.length⟩ S:=by rw[aj,ak bT.eq_1];simp[h3,gg,hg,mC,hc];rw[ae bT.eq_1];simp[hw]
     rw[step];refine⟨fun h=>JG (by simpa[hx]using h),fun h=>MZ (by simpa[hx]using h)⟩
    ·rw[hx]at hc
     refine⟨fun h=>by simp[hx]at h,fun _=>⟨i, ?_⟩⟩;rw[aj,ak bT.eq_1];simp[h3,gg,hg,mC,hc]
  obtain⟨h1,h2⟩:=key l.length 0 (by omega);simp only[jS]at h1 h2;cases hx:l.any F
  ·have e:=h1 hx
   simp at e;refine⟨-1,by simp, ?_⟩;simp;rw[ae bT.eq_1];simp[e]
  ·obtain⟨k,e⟩:=h2 hx
   simp at e;refine⟨k,by simp, ?_⟩;simp;rw[ae bT.eq_1];simp[e]
 rw[vB,ak j5.eq_1];obtain⟨k,h1,h2⟩:=key;have e:decide (0<=k)=l.any F:=by rw[lQ];simpa using h1
 simp[h2,e]
structure bj.Of(v:bj):Prop where
 k0: -9223372036854775808<=v.kind
 k1:v.kind<9223372036854775808
 ar:v.ar.length<9223372036854775808
 word:∀x∈v.ar,x.length<9223372036854775808
 parts:v.parts.length<9223372036854775808
inductive bj.Wf:bj->Prop
 |mk (v:bj) (one:v.Of) (all:∀p∈v.parts,bj.Wf p):bj.Wf v
theorem bj.Wf.one{v:bj}(h:v.Wf):v.Of:=by cases h;assumption
theorem bj.Wf.all{v:bj}(h:v.Wf):∀p∈v.parts,bj.Wf p:=by cases h;assumption
theorem agU(es:List (List AV))(i:Nat)(h:i<es.length):zn 1 (iA 1 es) none (some (.int .i64 i))=some (iA 1 (es.take i)):=by
 cases es with
 |nil=>simp at h
 |cons a r=>
  have hle:i<=r.length+1:=by simp at h;omega
  have nV:¬i=r.length+1:=by simp at h;omega
  have hi:(i:Int)<=(r.length:Int)+1:=by omega
  cases i with
  |zero=>
   have h0:(0:Int)<=(r.length:Int)+1:=by omega
   simp[iA,zn,vW,h0]
  |succ i=>
   have MP:(i:Int)+1<=(r.length:Int)+1:=by omega
   have ahy:¬i=r.length:=by omega
   have e1:((i:Int)+1).toNat=i+1:=by omega
   have e0:(0:Int)<=(i:Int)+1:=by omega
   simp[iA,zn,vW,MP,ahy,e1,e0]
theorem agV(l:List bq)(i:Nat)(h:i<l.length):zn 1 (cw l) none (some (.int .i64 i))=some (cw (l.take i)):=by have:=agU (l.map fun s=>[AV.str s]) i (by simpa using h);rw[<-List.map_take]at this;exact this
theorem GW(l:List bq)(x:bq)(hl:l.length<9223372036854775808)(S:St):DF ax nk 202 [cw l,.str x] S=some (.int .i64 (uK x l 0),S):=by
 have key:∀d i,i+d=l.length->
  DC ax nk (.loop fm) ⟨[(0,cw l),(1,.str x),(7,.int .i64 l.length),(8,.int .i64 (i:Nat))],[],S.length⟩ S=if 0<=uK x (l.drop i) i then some (.ret,⟨[(4,.int .i64 (uK x (l.drop i) i))],[],S.length⟩,S)else some (.exit 0,⟨[],[],S.length⟩,S):=by
  intro d;induction d with
  |zero=>
   intro i hi;rw[aj,ak fm.eq_1];have h5:¬i<l.length:=by omega
   have h6:l.drop i=[]:=dV (by omega);simp[h5,h6,uK]
  |succ d ih=>
   intro i hi;have h3:i<l.length:=by omega
   rw[aj,ak fm.eq_1];obtain⟨y,hy,gg⟩:=aE (l:=l) (i:=i) (by omega);rw[aJ hy];have hn:=ih (i+1) (by omega);have hw:=aV (i:=i) (by omega);simp at hn hw;by_cases e:y=x
   ·subst e
    simp[h3,gg,uK]
   ·have e':¬x=y:=fun h=>e h.symm
    simp[h3,gg,uK,e,e'];rw[ae fm.eq_1];simp[hw];exact hn
 rw[Dk,ak oN.eq_1];have h:=key l.length 0 (by omega);simp only[jS]at h;by_cases c:0<=uK x l 0
 ·simp[c]at h
  simp;rw[ae fm.eq_1];simp[h]
 ·have hm:uK x l 0= -1:=by
   have:∀(l:List bq)(k:Nat), -1<=uK x l k:=by
    intro l;induction l with
    |nil=>intro k;simp[uK]
    |cons a r ih=>intro k;unfold uK;split;omega;exact ih _
   have:=this l 0;omega
  simp[c]at h;simp;rw[ae fm.eq_1];simp[h,hm]
theorem r9(l:List bq)(x:bq)(hl:l.length<9223372036854775808)(S:St):DF ax nk 186 [cw l,.str x] S=some (.bool (l.contains x),S):=by
 rw[AJ,ak mi.eq_1];have h:=GW l x hl S;have e:decide (0<=uK x l 0)=l.contains x:=by rw[lQ];simp[UY]
 simp[h,e]
theorem PI(s:bq)(hs:s.length<9223372036854775808)(S:St):DF ax nk 208 [.str s] S=some (.bool (!dq s),S):=by rw[Mj,ak vy.eq_1];have h:=kj s hs S;simp[h,bF]
theorem UZ(l:List bq)(hl:l.length<9223372036854775808)(hn:∀x∈l,x.length<9223372036854775808)(S:St):DF ax nk 204 [cw l] S=some (.bool (decide (l.length<=8)&&l.all dq),S):=by
 rw[Pt,ak AF.eq_1];have h:=ye 208 rfl rfl (fun s=> !dq s) l hl S fun x hx=>PI x (hn x hx) S;have e:(!l.any fun s=> !dq s)=l.all dq:=by rw[ady];simp
 by_cases c:l.length<=8
 ·have c':((l.length:Int)<=8)=True:=eq_true (by omega)
  simp[h,c,c',e,bF]
 ·have c':((l.length:Int)<=8)=False:=eq_false (by omega)
  simp[c,c']
theorem yd(l:List bq)(hl:l.length<9223372036854775808)(S:St):DF ax nk 189 [cw l] S=some (.bool (iH [] l),S):=by
 have key:∀d i,i+d=l.length->
  DC ax nk (.loop je) ⟨[(0,cw l),(5,cw l),(6,.int .i64 l.length),(7,.int .i64 (i:Nat))],[],S.length⟩ S=if iH (l.take i) (l.drop i)then some (.exit 0,⟨[],[],S.length⟩,S)else some (.ret,⟨[(2,.bool false)],[],S.length⟩,S):=by
  intro d;induction d with
  |zero=>
   intro i hi;rw[aj,ak je.eq_1];have h5:¬i<l.length:=by omega
   have h6:l.drop i=[]:=dV (by omega);simp[h5,h6,iH]
  |succ d ih=>
   intro i hi;have h3:i<l.length:=by omega
   rw[aj,ak je.eq_1];obtain⟨y,hy,gg⟩:=aE (l:=l) (i:=i) (by omega);rw[aJ hy];have hn:=ih (i+1) (by omega);have hw:=aV (i:=i) (by omega);have ht:l.take (i+1)=l.take i++[y]:=by rw[sW,hy];rfl
   rw[ht]at hn;have hc:=r9 (l.take i) y (by simp;omega) S;have hs:=agV l i h3;simp at hn hw;by_cases hx:y∈l.take i
   ·have kM:(l.take i).contains y=true:=by simpa using hx
    rw[kM]at hc;simp[h3,gg,iH,hs,hc,hx]
   ·have kM:(l.take i).contains y=false:=by simpa using hx
    rw[kM]at hc;simp[h3,gg,iH,hs,hc,hx];rw[ae je.eq_1];simp[hw];exact hn
 rw[NO,ak ya.eq_1];have h:=key l.length 0 (by omega);simp only[jS,Ou]at h;cases hx:iH [] l
 ·rw[hx]at h
  simp at h;simp;rw[ae je.eq_1];simp[h]
 ·rw[hx]at h
  simp at h;simp;rw[ae je.eq_1];simp[h]
theorem Ml(s:bq)(S:St):DF ax nk 209 [.str s] S=some (.bool false,S):=by rw[Ji,ak sN.eq_1];simp
theorem N2(a b:bq)(S:St):DF ax nk 206 [.str a,.str b] S=some (.bool (Op.bytesLess a b),S):=by rw[Kw,ak ug.eq_1];have h:=Ml;simp[ze,h]
theorem Ci(l:List bq)(hl:l.length<9223372036854775808)(S:St):DF ax nk 203 [cw l] S=some (.bool (Kb l (l.length -1)),S):=by
 have key:∀i,i<l.length->
  DC ax nk (.loop cy) ⟨[(0,cw l),(3,.int .i64 (i:Nat))],[],S.length⟩ S=if Kb l i then some (.exit 0,⟨[],[],S.length⟩,S)else some (.ret,⟨[(2,.bool false)],[],S.length⟩,S):=by
  intro i;induction i with
  |zero=>
   intro hi;rw[aj,ak cy.eq_1];simp[Kb]
  |succ i ih=>
   intro hi;have hn:=ih (by omega);have hw:IntKind.wrap .i64 ((i+1:Nat):Int)=((i+1:Nat):Int):=wrap64 (by omega);have pd:IntKind.wrap .i64 (((i+1:Nat):Int) -1)=(i:Int):=by rw[wrap64 (by omega)];omega
   have ix1:=M7 l .i64 (i+1);have ix0:=M7 l .i64 i;obtain⟨x,hx⟩:=iN (l:=l) (i:=i+1) hi;obtain⟨y,hy⟩:=iN (l:=l) (i:=i) (by omega);have d1:l.getD (i+1) []=x:=by simp[List.getD,hx]
   have d0:l.getD i []=y:=by simp[List.getD,hy]
   rw[hx]at ix1;rw[hy]at ix0;have hc:=N2 x y S;have hp:(0:Int)<(i:Int)+1:=by omega
   rw[aj,ak cy.eq_1,Kb,d1,d0];simp at pd ix1 ix0;cases hb:Op.bytesLess x y
   ·rw[hb]at hc
    simp[pd,ix1,ix0,hc,hp];rw[ae cy.eq_1];simp;exact hn
   ·rw[hb]at hc
    simp[pd,ix1,ix0,hc,hp]
 rw[AL,ak ml.eq_1];by_cases h0:l=[]
 ·subst h0
  have hw:IntKind.wrap .i64 (-1)= -1:=wrap64 (by omega);have e:(0:Int) -1= -1:=rfl;have hd:DC ax nk (.loop cy) ⟨[(0,cw []),(3,.int .i64 (-1))],[],S.length⟩ S=some (.exit 0,⟨[],[],S.length⟩,S):=by rw[aj,ak cy.eq_1];simp
  simp[hw,Kb];rw[ae cy.eq_1];simp[hd]
 ·have hp:0<l.length:=by cases l<;>simp at h0⊢
  have h:=key (l.length -1) (by omega);have hw:IntKind.wrap .i64 ((l.length:Int) -1)=((l.length -1:Nat):Int):=by rw[wrap64 (by omega)];omega
  generalize l.length -1=m at*;cases hx:Kb l m
  ·rw[hx]at h
   simp at h;simp[hw];rw[ae cy.eq_1];simp[h]
  ·rw[hx]at h
   simp at h;simp[hw];rw[ae cy.eq_1];simp[h]
theorem FP(l:List bq)(hl:l.length<9223372036854775808)(S:St):DF ax nk 190 [cw l] S=some (.bool (Kb l (l.length -1)&&iH [] l),S):=by
 rw[NP,ak yb.eq_1];have h1:=Ci l hl S;have h2:=yd l hl S;cases hx:Kb l (l.length -1)
 ·rw[hx]at h1
  simp[h1]
 ·rw[hx]at h1
  simp[h1,h2]
theorem U0(v:bj)(hv:v.Of)(S:St):DF ax nk 199 [.agg v.ai] S=some (.bool v.jH,S):=by
 have h1:=UZ v.ar hv.ar hv.word;have h2:=yd v.ar hv.ar;have h3:=FP v.ar hv.ar;have z1:∀n:Nat,((n:Int)+1=0)=False:=fun n=>eq_false (by omega);have o1:∀n:Nat,((n:Int)=1)=(n=1):=fun n=>propext (by omega);rw[Ps,ak AE.eq_1];unfold bj.jH;by_cases k1:v.kind=1;·cases hw:v.ar<;>cases hp:v.parts<;>simp[k1,hw,hp,z1]
 by_cases k2:v.kind=2;·cases hw:v.ar<;>cases hp:v.parts<;>simp[k2,hw,hp,z1]
 by_cases k3:v.kind=3;·cases hw:v.ar<;>cases hp:v.parts<;>simp[k3,hw,hp,z1]
 by_cases k4:v.kind=4
 ·by_cases hw:v.ar=[]
  ·simp[m4,k4,hw]
  ·have hw':0<v.ar.length:=by cases hx:v.ar<;>simp[hx]at hw⊢
   have zm:v.ar.isEmpty=false:=by simpa using hw
   have hw3:((0:Int)<(v.ar.length:Int))=True:=eq_true (by omega);have hpe:decide (v.parts=[])=v.parts.isEmpty:=by cases v.parts<;>simp
   cases hn:(decide (v.ar.length<=8)&&v.ar.all dq)
   ·simp only[hn]at h1
    simp[m4,k4,hw,hw',zm,h1]
   ·simp only[hn]at h1
    cases hu:iH [] v.ar
    ·simp only[hu]at h2
     simp[m4,k4,hw,hw',zm,h1,h2]
    ·simp only[hu]at h2
     simp[m4,k4,hw,hw',zm,h1,h2,hpe]
 by_cases k5:v.kind=5
 ·rw[XA]
  cases hn:(decide (v.ar.length<=8)&&v.ar.all dq)
  ·simp only[hn]at h1
   have:((v.ar.all dq&&(Kb v.ar (v.ar.length -1)&&iH [] v.ar))&&decide (v.ar.length<=8))=false:=by cases ha:v.ar.all dq<;>cases hb:decide (v.ar.length<=8)<;>simp_all
   rw[this];simp[qE,k5,h1]
  ·simp only[hn]at h1
   have ha:v.ar.all dq=true:=by simp only[dk]at hn;exact hn.2
   have hb:decide (v.ar.length<=8)=true:=by simp only[dk]at hn;exact hn.1
   rw[ha,hb];cases hu:(Kb v.ar (v.ar.length -1)&&iH [] v.ar)
   ·simp only[hu]at h3
    simp[qE,k5,h1,h3]
   ·simp only[hu]at h3
    simp[qE,k5,h1,h3]
 by_cases k6:v.kind=6
 ·cases hw:v.ar
  ·simp[k6,hw,o1]
  ·simp[k6,hw,z1]
 simp[k1,k2,k3,k4,k5,k6]
theorem PJ(d:Nat)(hd:d<1000000)(x:bj)(j:Nat)(S:St)(bt:List (Option Nat))(lk:Bool)(hS:S[j]? =some (.mem [.int .i64 ((d+1:Nat):Int)] bt lk))
 (hF:∀S,DF ax nk 185 [.agg x.ai,.int .i64 d] S=some (.bool (x.aR d),S)):DF ax nk 201 [.agg x.ai,.ptr j 0] S=some (.bool (!x.aR d),S):=by
 rw[va (ax:=ax) (f:=201) (k:=qF) rfl (M1 rfl) S];unfold qF;simp only[DY,JK];rw[ak Db.eq_1];have hj:=(fI.1 hS).1;have Od:∀b,aY (S++[b]) .cell (.ptr j 0)=some (.int .i64 ((d+1:Nat):Int)):=by intro b;rw[bd (cs:=[.int .i64 ((d+1:Nat):Int)]) (aa:=bt) (l:=lk) (by rw[kP hj];exact hS)];rfl
 have hw:IntKind.wrap .i64 (((d+1:Nat):Int) -1)=d:=by rw[wrap_i64 _ (by omega) (by omega)];omega
 simp at Od hw;simp[Od,hw,hF,bF]
theorem U1(d:Nat)(hd:d<1000000):∀(v:bj),v.Wf->∀S:St,DF ax nk 185 [.agg v.ai,.int .i64 d] S=some (.bool (v.aR d),S):=by
 induction d with
 |zero=>
  intro v hv S;rw[Di,ak ue.eq_1];simp[qD,bj.aR]
 |succ d ih=>
  intro v hv S;rw[Di,ak ue.eq_1];have h1:=U0 v hv.one (S++[.mem v.ai [] false,.mem [.int .i64 ((d+1:Nat):Int)] [] false])
  have h2:=ux 201 rfl rfl (S.length+1) (fun x=> !x.aR d) v.parts hv.one.parts (S++[.mem v.ai [] false,.mem [.int .i64 ((d+1:Nat):Int)] [] false])
   fun x hx=>PJ d (by omega) x (S.length+1) _ [] false (by simp) fun S'=>ih (by omega) x (hv.all x hx) S'
  have LF:(0:Int)<(d:Int)+1:=by omega
  simp at h1 h2;cases hp:v.jH
  ·rw[hp]at h1
   simp[qD,bj.aR,h1,hp,LF]
  ·rw[hp]at h1
   simp[qD,bj.aR,h1,h2,hp,LF,bF];rw[List.not_all_eq_any_not]
theorem Jr(v:bj)(hv:v.Wf)(S:St):DF ax nk 159 [.agg v.ai] S=some (.bool (v.aR 5),S):=by rw[Po,ak Av.eq_1];have h:=U1 5 (by decide) v hv;simp at h;simp[h]
section
mutual
def aX.depth:aX->Nat
 |.mk _ _ _ _ _ ps=>aX.iB 1 ps
def aX.iB:Nat->List aX->Nat
 |n,[]=>n
 |n,v::r=>aX.iB (if n<aX.depth v+1 then aX.depth v+1 else n) r
end
theorem aX.jL(v:aX):v.depth=aX.iB 1 v.parts:=by cases v;simp[aX.depth,aX.parts]
theorem aX.iP:∀(l:List aX)(n m:Nat),aX.iB n l<=m↔n<=m/\∀p∈l,p.depth+1<=m
 |[],n,m=>by simp[aX.iB]
 |v::r,n,m=>by
  rw[aX.iB,aX.iP r];simp only[yi,forall_eq_or_imp];constructor
  ·rintro⟨a,b⟩
   refine⟨?_, ?_,b⟩<;>(split at a<;>omega)
  ·rintro⟨a,c,b⟩
   refine⟨?_,b⟩;split<;>omega
mutual
def aX.cO:aX->Bool
 |.mk k n s ns is ps=>(aX.mk k n s ns is ps).jH&&aX.lX ps
def aX.lX:List aX->Bool
 |[]=>true
 |v::r=>aX.cO v&&aX.lX r
end
theorem aX.pS:∀l:List aX,aX.lX l=l.all aX.cO
 |[]=>by simp[aX.lX]
 |v::r=>by simp[aX.lX,aX.pS r]
theorem aX.td(v:aX):v.cO=(v.jH&&v.parts.all aX.cO):=by cases v;simp[aX.cO,aX.parts,aX.pS]
theorem aX.CY:∀(d:Nat)(v:aX),v.aR d=(decide (v.depth<=d)&&v.cO):=by
 intro d;induction d with
 |zero=>
  intro v;have:¬v.depth<=0:=by rw[aX.jL,aX.iP];omega
  simp only[aX.aR];rw[show decide (v.depth<=0)=false by simpa using this];rfl
 |succ d ih=>
  intro v;rw[aX.aR,aX.td,lQ];simp only[dk,j7,decide_eq_true_eq,ih];rw[aX.jL,aX.iP];constructor
  ·rintro⟨a,b⟩
   exact⟨⟨by omega,fun p hp=>by have:=(b p hp).1;omega⟩,a,fun p hp=>(b p hp).2⟩
  ·rintro⟨⟨_,a⟩,b,c⟩
   exact⟨b,fun p hp=>⟨by have:=a p hp;omega,c p hp⟩⟩
theorem Jz(v:aX)(hl:v.parts.length<9223372036854775808)(B:Nat)(hB:B<1000000)(S:St)(hF:∀x∈v.parts,x.depth<B/\∀S,DF ax nk 99 [.agg x.ai] S=some (.int .i64 (x.depth:Nat),S))(nb:Nat):∀d i(n:Nat),i+d=v.parts.length->
 DC ax nk (.loop fF) ⟨[(1,.ptr S.length 0),(3,.int .i64 n),(4,.int .i64 (i:Nat))],[],nb⟩ (S++[.mem v.ai [] false])=some (.exit 0,⟨[(3,.int .i64 (aX.iB n (v.parts.drop i):Nat))],[],nb⟩,S++[.mem v.ai [] false]):=by
 intro d;induction d with
 |zero=>
  intro i n hi;rw[aj,ak fF.eq_1];have h5:¬i<v.parts.length:=by omega
  have h6:v.parts.drop i=[]:=dV (by omega);simp[h5,h6,aX.iB]
 |succ d ih=>
  intro i n hi;have h3:i<v.parts.length:=by omega
  rw[aj,ak fF.eq_1];obtain⟨y,hy,gg⟩:=aE (l:=v.parts) (i:=i) (by omega);rw[aJ hy];obtain⟨hb,hc⟩:=hF y (eT hy);have hc:=hc (S++[.mem v.ai [] false]);have hw:=aV (i:=i) (by omega);have zm:IntKind.wrap .i64 ((y.depth:Int)+1)=((y.depth+1:Nat):Int):=by rw[wrap_i64 _ (by omega) (by omega)];omega
  rw[aX.iB];by_cases cV:n<y.depth+1
  ·have hn:=ih (i+1) (y.depth+1) (by omega)
   have xF:(n:Int)<(y.depth:Int)+1:=by omega
   simp at hn hw zm;simp[h3,gg,hc,zm,cV,xF];rw[ae fF.eq_1];simp[hw,hn]
  ·have hn:=ih (i+1) n (by omega)
   have xF:¬(n:Int)<(y.depth:Int)+1:=by omega
   simp at hn hw zm;simp[h3,gg,hc,zm,cV,xF];rw[ae fF.eq_1];simp[hw,hn]
theorem JA(v:aX):v.Wf->v.depth<1000000->∀S:St,DF ax nk 99 [.agg v.ai] S=some (.int .i64 (v.depth:Nat),S):=by
 induction v using aX.ind with
 |h v ih=>
  intro hv hd S;rw[EX,ak qj.eq_1];have hle:aX.iB 1 v.parts<=v.depth:=by rw[aX.jL];exact eJ _
  have hp:=((aX.iP v.parts 1 v.depth).1 hle).2;have h:=Jz v hv.one.parts v.depth hd S (fun x hx=>⟨by have:=hp x hx;omega,fun S'=>ih x hx (hv.all x hx) (by have:=hp x hx;omega) S'⟩) S.length v.parts.length 0 1 (by omega);simp only[jS,<-aX.jL]at h;simp at h;simp;rw[ae fF.eq_1];simp[h]
def aX.Ie(v:aX):Bool:=decide (v.kind<1)||(decide (6<v.kind)||((!decide (v.kind=1)&& !decide (v.kind=2)&& !decide (v.n=0))||((!decide (v.kind=3)&& !decide (v.kind=4)&& !v.s.isEmpty)||((!decide (v.kind=5)&& !v.aU.isEmpty)||(!decide (v.kind=6)&& !v.ids.isEmpty)))))
def aX.TZ(v:aX):Bool:=(decide (v.kind=1)&& !decide (v.n=0)&& !decide (v.n=1))||((decide (v.kind=3)&&decide (64<v.s.length))||((decide (v.kind=4)&& !dq v.s)||(decide (8<v.aU.length)||(decide (12<v.ids.length)|| !decide (v.parts.length=v.aU.length+v.ids.length)))))
theorem aX.Mm(v:aX):v.jH=(!v.Ie&& !v.TZ&&goN none v.aU&&QN [] v.ids):=by
 unfold aX.jH aX.Ie aX.TZ aX.bare;by_cases a:v.kind<1
 ·have k1:¬v.kind=1:=by omega
  have k2:¬v.kind=2:=by omega
  have k3:¬v.kind=3:=by omega
  have k4:¬v.kind=4:=by omega
  have k5:¬v.kind=5:=by omega
  have k6:¬v.kind=6:=by omega
  simp[k1,k2,k3,k4,k5,k6,a]
 by_cases b:6<v.kind
 ·have k1:¬v.kind=1:=by omega
  have k2:¬v.kind=2:=by omega
  have k3:¬v.kind=3:=by omega
  have k4:¬v.kind=4:=by omega
  have k5:¬v.kind=5:=by omega
  have k6:¬v.kind=6:=by omega
  simp[k1,k2,k3,k4,k5,k6,b]
 have hk:v.kind=1\/v.kind=2\/v.kind=3\/v.kind=4\/v.kind=5\/v.kind=6:=by omega
 have e8:∀n m:Nat,(!decide (n<m))=decide (m<=n):=fun n m=>by rw[lQ];simp
 rcases hk with h|h|h|h|h|h<;>rcases h2:v.s with _|⟨s0,sr⟩<;>rcases h3:v.aU with _|⟨n0,nr⟩<;>rcases h4:v.ids with _|⟨i0,ir⟩<;>by_cases c1:v.n=0<;>by_cases c2:v.n=1<;>
  (first|omega|(rcases h5:v.parts with _|⟨p0,pr⟩<;>simp[h,c1,c2,goN,QN,e8]<;>(try rw[lQ])<;>(try simp)<;>(try omega)<;>grind))
section
variable(v:aX)(S:St)(sl:KE)(aa:List (Option Nat))(nb:Nat)(k:KC)
set_option maxHeartbeats 2000000 in
theorem Dx(h1:KE.get sl 1=.ptr S.length 0)(h3:KE.get sl 3=.int .i64 v.kind):CI ax nk (.aN [1,3,61] k) (CH (qV (lK nk (DF ax nk)) nO ⟨sl,aa,nb⟩ (S++[.mem v.ai [] false])))=DC ax nk k ⟨[(1,.ptr S.length 0),(3,.int .i64 v.kind),(61,.bool v.Ie)],aa,nb⟩ (S++[.mem v.ai [] false]):=by
 unfold nO aX.Ie;by_cases a:v.kind<1;·simp[h1,h3,a]
 by_cases b:6<v.kind;·simp[h1,h3,a,b]
 have hk:v.kind=1\/v.kind=2\/v.kind=3\/v.kind=4\/v.kind=5\/v.kind=6:=by omega
 rcases hk with h|h|h|h|h|h<;>by_cases c1:v.n=0<;>rcases h2:v.s with _|⟨s0,sr⟩<;>rcases h4:v.aU with _|⟨n0,nr⟩<;>rcases h5:v.ids with _|⟨i0,ir⟩<;>simp[h1,h3,h,c1,h2,h4,h5]<;>omega
set_option maxHeartbeats 2000000 in
theorem Dy(hs:v.s.length<9223372036854775808)(h1:KE.get sl 1=.ptr S.length 0)(h3:KE.get sl 3=.int .i64 v.kind):CI ax nk (.aN [1,118] k) (CH (qV (lK nk (DF ax nk)) nP ⟨sl,aa,nb⟩ (S++[.mem v.ai [] false])))=DC ax nk k ⟨[(1,.ptr S.length 0),(118,.bool v.TZ)],aa,nb⟩ (S++[.mem v.ai [] false]):=by
 unfold nP aX.TZ;have hN:=ji v.s hs (S++[.mem v.ai [] false]);have e8:((8:Int)<v.aU.length)=(8<v.aU.length):=by simp only[eq_iff_iff];omega
 have Z_:((12:Int)<v.ids.length)=(12<v.ids.length):=by simp only[eq_iff_iff];omega
 have e64:((64:Int)<v.s.length)=(64<v.s.length):=by simp only[eq_iff_iff];omega
 have hk:v.kind=1\/v.kind=3\/v.kind=4\/(v.kind≠1/\v.kind≠3/\v.kind≠4):=by omega
 have tail:∀(c5:¬8<v.aU.length)(c6:¬12<v.ids.length),IntKind.wrap .i64 ((v.aU.length:Int)+v.ids.length)=((v.aU.length+v.ids.length:Nat):Int):=fun c5 c6=>by rw[wrap_i64 _ (by omega) (by omega)];omega
 have fin:∀P:Prop,(8<v.aU.length->P)->(¬8<v.aU.length->12<v.ids.length->P)->(∀(c5:¬8<v.aU.length)(c6:¬12<v.ids.length),v.parts.length=v.aU.length+v.ids.length->P)->(∀(c5:¬8<v.aU.length)(c6:¬12<v.ids.length),¬v.parts.length=v.aU.length+v.ids.length->P)->P:=by
  intro P p1 p2 p3 p4;by_cases c5:8<v.aU.length;·exact p1 c5
  by_cases c6:12<v.ids.length;·exact p2 c5 c6
  by_cases c7:v.parts.length=v.aU.length+v.ids.length;·exact p3 c5 c6 c7
  ·exact p4 c5 c6 c7
 have cp:∀c7:¬v.parts.length=v.aU.length+v.ids.length,¬(v.parts.length:Int)=(v.aU.length:Int)+v.ids.length:=fun c7 e=>c7 (by omega);have cq:∀c7:v.parts.length=v.aU.length+v.ids.length,(v.parts.length:Int)=(v.aU.length:Int)+v.ids.length:=fun c7=>by omega
 rcases hk with h|h|h|⟨k1,k3,k4⟩
 ·by_cases n0:v.n=0
  ·refine fin _ (fun c5=>?_) (fun c5 c6=>?_) (fun c5 c6 c7=>?_) (fun c5 c6 c7=>?_)
   ·simp[h1,h3,e8,c5,h,n0]
   ·simp[h1,h3,e8,Z_,c5,c6,h,n0]
   ·have w:=tail c5 c6;have c8:=cq c7;simp at w;simp[h1,h3,e8,Z_,c5,c6,c7,w,h,n0]
   ·have w:=tail c5 c6;have c8:=cp c7;simp at w;simp[h1,h3,e8,Z_,c5,c6,c7,c8,w,h,n0]
  by_cases n1:v.n=1
  ·refine fin _ (fun c5=>?_) (fun c5 c6=>?_) (fun c5 c6 c7=>?_) (fun c5 c6 c7=>?_)
   ·simp[h1,h3,e8,c5,h,n1]
   ·simp[h1,h3,e8,Z_,c5,c6,h,n1]
   ·have w:=tail c5 c6;have c8:=cq c7;simp at w;simp[h1,h3,e8,Z_,c5,c6,c7,w,h,n1]
   ·have w:=tail c5 c6;have c8:=cp c7;simp at w;simp[h1,h3,e8,Z_,c5,c6,c7,c8,w,h,n1]
  ·simp[h1,h3,h,n0,n1]
 ·by_cases c:64<v.s.length
  ·simp[h1,h3,h,e64,c]
  ·refine fin _ (fun c5=>?_) (fun c5 c6=>?_) (fun c5 c6 c7=>?_) (fun c5 c6 c7=>?_)
   ·simp[h1,h3,e8,e64,c5,h,c]
   ·simp[h1,h3,e8,Z_,e64,c5,c6,h,c]
   ·have w:=tail c5 c6;have c8:=cq c7;simp at w;simp[h1,h3,e8,Z_,e64,c5,c6,c7,w,h,c]
   ·have w:=tail c5 c6;have c8:=cp c7;simp at w;simp[h1,h3,e8,Z_,e64,c5,c6,c7,c8,w,h,c]
 ·cases c:dq v.s
  ·rw[c]at hN
   simp[h1,h3,h,hN,bF]
  ·rw[c]at hN
   refine fin _ (fun c5=>?_) (fun c5 c6=>?_) (fun c5 c6 c7=>?_) (fun c5 c6 c7=>?_);·simp[h1,h3,e8,c5,h,hN,bF]
   ·simp[h1,h3,e8,Z_,c5,c6,h,hN,bF]
   ·have w:=tail c5 c6;have c8:=cq c7;simp at w;simp[h1,h3,e8,Z_,c5,c6,c7,w,h,hN,bF]
   ·have w:=tail c5 c6;have c8:=cp c7;simp at w;simp[h1,h3,e8,Z_,c5,c6,c7,c8,w,h,hN,bF]
 ·refine fin _ (fun c5=>?_) (fun c5 c6=>?_) (fun c5 c6 c7=>?_) (fun c5 c6 c7=>?_)
  ·simp[h1,h3,e8,c5,k1,k3,k4]
  ·simp[h1,h3,e8,Z_,c5,c6,k1,k3,k4]
  ·have w:=tail c5 c6;have c8:=cq c7;simp at w;simp[h1,h3,e8,Z_,c5,c6,c7,w,k1,k3,k4]
  ·have w:=tail c5 c6;have c8:=cp c7;simp at w;simp[h1,h3,e8,Z_,c5,c6,c7,c8,w,k1,k3,k4]
end
end
section
theorem aqu(a b:List UInt8):(Op.bytesLess b a||decide (b=a))= !Op.bytesLess a b:=by
 have h:∀x y,Op.bytesLess x y=bl x y:=by
  intro x;induction x with
  |nil=>intro y;cases y<;>rfl
  |cons c x ih=>
   intro y;cases y with
   |nil=>rfl
   |cons d y=>
    simp only[Op.bytesLess,bl,ih];by_cases e:c=d;·subst e;simp[UInt8.lt_irrefl]
    ·simp[e]
 rw[h,h];cases e:bl a b
 ·by_cases hab:b=a
  ·simp[hab]
  ·have:=acr a b (fun h=>hab h.symm) e
   simp[this]
 ·have h1:=akf e
  have h2:b≠a:=fun h=>by subst h;rw[JV]at e;cases e
  simp[h1,h2]
section
variable(v:aX)(hv:v.Of)
include hv
theorem Ff(nb:Nat)(S:St):∀d i,i+d=v.aU.length->
 DC ax nk (.loop fG) ⟨[(1,.ptr S.length 0),(4,.int .i64 (i:Nat))],[],nb⟩ (S++[.mem v.ai [] false])=if goN (BF v.aU i) (v.aU.drop i)then some (.exit 0,⟨[(1,.ptr S.length 0)],[],nb⟩,S++[.mem v.ai [] false])else some (.ret,⟨[(2,.bool false)],[],nb⟩,S++[.mem v.ai [] false]):=by
 have hl:=hv.aU;intro d;induction d with
 |zero=>
  intro i hi;rw[aj,ak fG.eq_1];have h5:¬i<v.aU.length:=by omega
  have h6:v.aU.drop i=[]:=dV (by omega);simp[h5,h6,goN]
 |succ d ih=>
  intro i hi;have h3:i<v.aU.length:=by omega
  rw[aj,ak fG.eq_1];obtain⟨y,hy,gg⟩:=aE (l:=v.aU) (i:=i) (by omega);rw[aJ hy];have hr:=ih (i+1) (by omega);rw[Vh hy]at hr;have hw:=aV (i:=i) (by omega);have ZQ:=ji y (hv.name y (eT hy)) (S++[.mem v.ai [] false]);simp at hr hw;cases hx:dq y
  ·rw[hx]at ZQ
   simp[jc,h3,gg,goN,ZQ,hx,bF]
  ·rw[hx]at ZQ
   rcases Nat.eq_zero_or_pos i with hz0|LF
   ·have hp:BF v.aU i=none:=by simp[BF,hz0]
    have hz1:¬0<i:=by omega
    have hz2:¬(0:Int)<i:=by omega
    simp[jc,h3,gg,goN,ZQ,hx,bF,hp,hz1];rw[ae fG.eq_1];simp[hw];exact hr
   ·obtain⟨z,hz,hz'⟩:=aE (l:=v.aU) (i:=i -1) (by omega)
    have hp:BF v.aU i=some z:=by simp[BF,hz];omega
    have zm:IntKind.wrap .i64 ((i:Int) -1)=((i -1:Nat):Int):=by rw[wrap_i64 _ (by omega) (by omega)];omega
    have auC:(0:Int)<i:=by omega
    have Cn:=aqu z y;cases hb:Op.bytesLess z y
    ·rw[hb]at Cn
     simp at Cn;simp[jc,h3,gg,goN,ZQ,hx,bF,hp,LF,zm,hz,hb,Cn]
    ·rw[hb]at Cn
     simp at Cn;simp[jc,h3,gg,goN,ZQ,hx,bF,hp,LF,zm,hz,hb,Cn];rw[ae fG.eq_1];simp[hw];exact hr
theorem Fg(i:Nat)(y:Int)(hi:v.ids[i]? =some y)(nb:Nat)(S:St):∀d j,j+d=i->
 DC ax nk (.loop gW) ⟨[(1,.ptr S.length 0),(5,.int .i64 (i:Nat)),(6,.int .i64 (j:Nat))],[],nb⟩ (S++[.mem v.ai [] false])=if y∈(v.ids.take i).drop j then some (.ret,⟨[(2,.bool false)],[],nb⟩,S++[.mem v.ai [] false])else some (.exit 4,⟨[(1,.ptr S.length 0),(5,.int .i64 (i:Nat))],[],nb⟩,S++[.mem v.ai [] false]):=by
 have hl:=hv.ids;have hil:i<v.ids.length:=(fI.1 hi).1;intro d;induction d with
 |zero=>
  intro j hj;rw[aj,ak gW.eq_1];have h5:¬j<i:=by omega
  have h6:(v.ids.take i).drop j=[]:=dV (by simp;omega);simp[h5,h6]
 |succ d ih=>
  intro j hj;have h3:j<i:=by omega
  rw[aj,ak gW.eq_1];obtain⟨z,hz,hz'⟩:=aE (l:=v.ids) (i:=j) (by omega);have hz2:(v.ids.take i)[j]? =some z:=by rw[WH h3];exact hz
  rw[aJ hz2];have hr:=ih (j+1) (by omega);have hw:=aV (i:=j) (by omega);simp at hr hw;by_cases e:y=z
  ·subst e
   simp[h3,hz,hi]
  ·have e':¬z=y:=fun h=>e h.symm
   simp[h3,hz,hi,e];rw[ae gW.eq_1];simp[hw];exact hr
theorem Fh(nb:Nat)(S:St):∀d i,i+d=v.ids.length->
 DC ax nk (.loop gX) ⟨[(1,.ptr S.length 0),(5,.int .i64 (i:Nat))],[],nb⟩ (S++[.mem v.ai [] false])=if QN (v.ids.take i) (v.ids.drop i)then some (.exit 2,⟨[(1,.ptr S.length 0)],[],nb⟩,S++[.mem v.ai [] false])else some (.ret,⟨[(2,.bool false)],[],nb⟩,S++[.mem v.ai [] false]):=by
 have hl:=hv.ids;intro d;induction d with
 |zero=>
  intro i hi;rw[aj,ak gX.eq_1];have h5:¬i<v.ids.length:=by omega
  have h6:v.ids.drop i=[]:=dV (by omega);simp[h5,h6,QN]
 |succ d ih=>
  intro i hi;have h3:i<v.ids.length:=by omega
  rw[aj,ak gX.eq_1];obtain⟨y,hy,gg⟩:=aE (l:=v.ids) (i:=i) (by omega);rw[aJ hy];have hr:=ih (i+1) (by omega);have hw:=aV (i:=i) (by omega);have ht:v.ids.take (i+1)=v.ids.take i++[y]:=by rw[sW,hy];rfl
  rw[ht]at hr;have LC:=Fg v hv i y hy nb S i 0 (by omega);simp only[jS]at LC;simp at hr hw LC;simp[h3];rw[ae gW.eq_1];by_cases hx:y∈v.ids.take i
  ·simp[hx]at LC
   simp[LC,QN,hx]
  ·simp[hx]at LC
   by_cases e:y=0
   ·subst e
    simp[LC,QN,hy]
   ·simp[LC,QN,hx,e,hy]
    rw[ae gX.eq_1];simp[hw];exact hr
theorem Fi(S:St)(hF:∀x∈v.parts,∀S,DF ax nk 100 [.agg x.ai] S=some (.bool x.cO,S))(nb:Nat):∀d i,i+d=v.parts.length->
 DC ax nk (.loop gY) ⟨[(1,.ptr S.length 0),(7,.int .i64 (i:Nat))],[],nb⟩ (S++[.mem v.ai [] false])=if(v.parts.drop i).all aX.cO then some (.exit 6,⟨[],[],nb⟩,S++[.mem v.ai [] false])else some (.ret,⟨[(2,.bool false)],[],nb⟩,S++[.mem v.ai [] false]):=by
 have hl:=hv.parts;intro d;induction d with
 |zero=>
  intro i hi;rw[aj,ak gY.eq_1];have h5:¬i<v.parts.length:=by omega
  have h6:v.parts.drop i=[]:=dV (by omega);simp[h5,h6]
 |succ d ih=>
  intro i hi;have h3:i<v.parts.length:=by omega
  rw[aj,ak gY.eq_1];obtain⟨y,hy,gg⟩:=aE (l:=v.parts) (i:=i) (by omega);rw[aJ hy];have hr:=ih (i+1) (by omega);have hw:=aV (i:=i) (by omega);have hc:=hF y (eT hy) (S++[.mem v.ai [] false]);simp only[TF];rcases Bool.eq_false_or_eq_true y.cO with hx|hx;rotate_left
  ·rw[hx]at hc
   simp[h3,gg,hc,hx,bF]
  ·rw[hx]at hc
   simp[h3,gg,hc,hx,bF];rw[ae gY.eq_1];simp at hw hr;simp[hw];exact hr
end
theorem JB(v:aX):v.Wf->∀S:St,DF ax nk 100 [.agg v.ai] S=some (.bool v.cO,S):=by
 induction v using aX.ind with
 |h v ih=>
  intro hv S;rw[EY,ak qk.eq_1,aX.td,aX.Mm];have h0:=Ff v hv.one S.length S v.aU.length 0 (by omega);have h2:=Fh v hv.one S.length S v.ids.length 0 (by omega);have h3:=Fi v hv.one S (fun x hx S'=>ih x hx (hv.all x hx) S') S.length v.parts.length 0 (by omega);simp only[jS,Ou,BF,if_true]at h0 h2 h3;have r0:=Dx v S;have r1:=fun sl aa nb k=>Dy v S sl aa nb k hv.one.s;cases b0:v.Ie
  ·cases b1:v.TZ
   ·rw[b0]at r0
    simp[r0];simp only[b1]at r1;simp[r1];rw[ae fG.eq_1];cases g0:goN none v.aU
    ·rw[g0]at h0
     simp at h0;simp[h0]
    ·rw[g0]at h0
     simp at h0;simp[h0];rw[ae gX.eq_1];cases g2:QN [] v.ids
     ·rw[g2]at h2
      simp at h2;simp[h2]
     ·rw[g2]at h2
      simp at h2;simp[h2];rw[ae gY.eq_1];cases g3:v.parts.all aX.cO
      ·rw[g3]at h3
       simp at h3;simp[h3]
      ·rw[g3]at h3
       simp at h3;simp[h3]
   ·rw[b0]at r0
    simp[r0];simp only[b1]at r1;simp[r1]
  ·rw[b0]at r0
   simp[r0]
theorem pU(v:aX)(hv:v.Wf)(hd:v.depth<1000000)(S:St):DF ax nk 54 [.agg v.ai] S=some (.bool (v.aR 5),S):=by
 rw[ER,ak qb.eq_1,aX.CY];have h1:=JA v hv hd (S++[.mem v.ai [] false]);have h2:=JB v hv (S++[.mem v.ai [] false]);by_cases c:v.depth<=5
 ·have c':(v.depth:Int)<=5:=by omega
  simp[h1,h2,c,c']
 ·have c':¬(v.depth:Int)<=5:=by omega
  simp[h1,c,c']
end
section
mutual
def bj.depth:bj->Nat
 |.mk _ _ ps=>bj.iB 1 ps
def bj.iB:Nat->List bj->Nat
 |n,[]=>n
 |n,v::r=>bj.iB (if n<bj.depth v+1 then bj.depth v+1 else n) r
end
theorem bj.jL(v:bj):v.depth=bj.iB 1 v.parts:=by cases v;simp[bj.depth,bj.parts]
theorem bj.iP:∀(l:List bj)(n m:Nat),bj.iB n l<=m↔n<=m/\∀p∈l,p.depth+1<=m
 |[],n,m=>by simp[bj.iB]
 |v::r,n,m=>by
  rw[bj.iB,bj.iP r];simp only[yi,forall_eq_or_imp];constructor
  ·rintro⟨a,b⟩
   refine⟨?_, ?_,b⟩<;>(split at a<;>omega)
  ·rintro⟨a,c,b⟩
   refine⟨?_,b⟩;split<;>omega
mutual
def bj.cO:bj->Bool
 |.mk k ws ps=>(bj.mk k ws ps).jH&&bj.lX ps
def bj.lX:List bj->Bool
 |[]=>true
 |v::r=>bj.cO v&&bj.lX r
end
theorem bj.pS:∀l:List bj,bj.lX l=l.all bj.cO
 |[]=>by simp[bj.lX]
 |v::r=>by simp[bj.lX,bj.pS r]
theorem bj.td(v:bj):v.cO=(v.jH&&v.parts.all bj.cO):=by cases v;simp[bj.cO,bj.parts,bj.pS]
theorem bj.CY:∀(d:Nat)(v:bj),v.aR d=(decide (v.depth<=d)&&v.cO):=by
 intro d;induction d with
 |zero=>
  intro v;have:¬v.depth<=0:=by rw[bj.jL,bj.iP];omega
  simp only[bj.aR];rw[show decide (v.depth<=0)=false by simpa using this];rfl
 |succ d ih=>
  intro v;rw[bj.aR,bj.td,lQ];simp only[dk,j7,decide_eq_true_eq,ih];rw[bj.jL,bj.iP];constructor
  ·rintro⟨a,b⟩
   exact⟨⟨by omega,fun p hp=>by have:=(b p hp).1;omega⟩,a,fun p hp=>(b p hp).2⟩
  ·rintro⟨⟨_,a⟩,b,c⟩
   exact⟨b,fun p hp=>⟨by have:=a p hp;omega,c p hp⟩⟩
theorem Js(v:bj)(hl:v.parts.length<9223372036854775808)(B:Nat)(hB:B<1000000)(S:St)(hF:∀x∈v.parts,x.depth<B/\∀S,DF ax nk 180 [.agg x.ai] S=some (.int .i64 (x.depth:Nat),S))(nb:Nat):∀d i(n:Nat),i+d=v.parts.length->
 DC ax nk (.loop fH) ⟨[(1,.ptr S.length 0),(3,.int .i64 n),(4,.int .i64 (i:Nat))],[],nb⟩ (S++[.mem v.ai [] false])=some (.exit 0,⟨[(3,.int .i64 (bj.iB n (v.parts.drop i):Nat))],[],nb⟩,S++[.mem v.ai [] false]):=by
 intro d;induction d with
 |zero=>
  intro i n hi;rw[aj,ak fH.eq_1];have h5:¬i<v.parts.length:=by omega
  have h6:v.parts.drop i=[]:=dV (by omega);simp[h5,h6,bj.iB]
 |succ d ih=>
  intro i n hi;have h3:i<v.parts.length:=by omega
  rw[aj,ak fH.eq_1];obtain⟨y,hy,gg⟩:=aE (l:=v.parts) (i:=i) (by omega);rw[aJ hy];obtain⟨hb,hc⟩:=hF y (eT hy);have hc:=hc (S++[.mem v.ai [] false]);have hw:=aV (i:=i) (by omega);have zm:IntKind.wrap .i64 ((y.depth:Int)+1)=((y.depth+1:Nat):Int):=by rw[wrap_i64 _ (by omega) (by omega)];omega
  rw[bj.iB];by_cases cV:n<y.depth+1
  ·have hn:=ih (i+1) (y.depth+1) (by omega)
   have xF:(n:Int)<(y.depth:Int)+1:=by omega
   simp at hn hw zm;simp[h3,gg,hc,zm,cV,xF];rw[ae fH.eq_1];simp[hw,hn]
  ·have hn:=ih (i+1) n (by omega)
   have xF:¬(n:Int)<(y.depth:Int)+1:=by omega
   simp at hn hw zm;simp[h3,gg,hc,zm,cV,xF];rw[ae fH.eq_1];simp[hw,hn]
theorem Jt(v:bj):v.Wf->v.depth<1000000->∀S:St,DF ax nk 180 [.agg v.ai] S=some (.int .i64 (v.depth:Nat),S):=by
 induction v using bj.ind with
 |h v ih=>
  intro hv hd S;rw[E8,ak qs.eq_1];have hle:bj.iB 1 v.parts<=v.depth:=by rw[bj.jL];exact eJ _
  have hp:=((bj.iP v.parts 1 v.depth).1 hle).2;have h:=Js v hv.one.parts v.depth hd S (fun x hx=>⟨by have:=hp x hx;omega,fun S'=>ih x hx (hv.all x hx) (by have:=hp x hx;omega) S'⟩) S.length v.parts.length 0 1 (by omega);simp only[jS,<-bj.jL]at h;simp at h;simp;rw[ae fH.eq_1];simp[h]
def PK(ZO:Bool)(s t:bq):Bool:=decide (s=t)||(ZO&&Op.bytesLess s t)
def okW(ZO:Bool):List bq->List bq->Bool
 |_,[]=>true
 |seen,s::r=>dq s&&(seen.all (fun t=> !PK ZO s t)&&okW ZO (seen++[s]) r)
theorem ZP(ZO:Bool):∀(l seen:List bq),okW ZO seen l=true↔(∀x∈l,dq x=true)/\l.Pairwise (fun a b=>PK ZO b a=false)/\∀x∈l,∀t∈seen,PK ZO x t=false
 |[],seen=>by simp[okW]
 |s::r,seen=>by
  have ih:=ZP ZO r (seen++[s]);simp only[okW,dk,ih,List.pairwise_cons,adD,j7,P3,MJ,Tx];constructor;·rintro⟨a,b,c,d,e⟩;exact⟨⟨a,c⟩,⟨fun x hx=>e x hx s (.inr rfl),d⟩,b,fun x hx t ht=>e x hx t (.inl ht)⟩
  ·rintro⟨⟨a,c⟩,⟨f,d⟩,b,e⟩
   refine⟨a,b,c,d,fun x hx t ht=>?_⟩;rcases ht with ht|rfl;·exact e x hx t ht
   ·exact f x hx
theorem agW(l:List bq):okW false [] l=(l.all dq&&iH [] l):=by
 rw[lQ,ZP,dk,j7,BT];simp only[TA,not_false_eq_true,implies_true,and_true,PK,Bool.false_and,Bool.or_false,decide_eq_false_iff_not,false_implies];constructor;·rintro⟨a,b⟩;exact⟨a,Tz (fun h e=>h e.symm) b⟩
 ·rintro⟨a,b⟩;exact⟨a,Tz (fun h e=>h e.symm) b⟩
theorem ajY(l:List bq):okW true [] l=goN none l:=by
 rw[lQ,ZP,ad3];simp only[TA,false_implies,implies_true,and_true,PK,MK];have e:∀a b:bq,(decide (b=a)||Op.bytesLess b a)=false↔Op.bytesLess a b=true:=by intro a b;have:=Y8 a b;rw[Bool.or_comm]at this;rw[this];simp
 constructor;·rintro⟨a,b⟩;exact⟨a,Tz (fun h=>(e _ _).1 h) b⟩
 ·rintro⟨a,b⟩;exact⟨a,Tz (fun h=>(e _ _).2 h) b⟩
def bj.want(v:bj):Nat:=if v.kind=5 then v.ar.length else if v.kind=6 then 1 else 0
def bj.Ie(v:bj):Bool:=decide (v.kind<1)||(decide (6<v.kind)||(decide (8<v.ar.length)||((!decide (v.kind=4)&&(!decide (v.kind=5)&& !v.ar.isEmpty))||(decide (v.kind=4)&&v.ar.isEmpty))))
theorem tt{α:Type}(l:List α):l.isEmpty=decide (l.length=0):=by cases l<;>simp
theorem bj.Mm(v:bj):v.jH=(!v.Ie&&(decide (v.parts.length=v.want)&&okW (decide (v.kind=5)) [] v.ar)):=by
 have h8:decide (8<v.ar.length)= !decide (v.ar.length<=8):=by rw[lQ];simp
 unfold bj.jH bj.Ie bj.want;by_cases k1:v.kind=1;·cases hw:v.ar<;>simp[k1,tt,okW]
 by_cases k2:v.kind=2;·cases hw:v.ar<;>simp[k2,tt,okW]
 by_cases k3:v.kind=3;·cases hw:v.ar<;>simp[k3,tt,okW]
 by_cases k4:v.kind=4
 ·rw[show decide (v.kind=5)=false by simp[k4],agW,h8]
  simp only[k4];cases v.ar.isEmpty<;>cases decide (v.ar.length<=8)<;>cases v.ar.all dq<;>cases iH [] v.ar<;>simp[tt]
 by_cases k5:v.kind=5
 ·rw[show decide (v.kind=5)=true by simp[k5],ajY,h8]
  simp only[k5];cases decide (v.ar.length<=8)<;>cases goN none v.ar<;>simp
 by_cases k6:v.kind=6;·cases hw:v.ar<;>simp[k6,tt,okW]
 have:v.kind<1\/6<v.kind:=by omega
 rcases this with h|h<;>simp[k1,k2,k3,k4,k5,k6,h]
section
variable(v:bj)(S:St)(sl:KE)(aa:List (Option Nat))(nb:Nat)(k:KC)
theorem Du(h1:KE.get sl 1=.ptr S.length 0):CI ax nk (.aN [1,47] k) (CH (qV (lK nk (DF ax nk)) nT ⟨sl,aa,nb⟩ (S++[.mem v.ai [] false])))=DC ax nk k ⟨[(1,.ptr S.length 0),(47,.bool v.Ie)],aa,nb⟩ (S++[.mem v.ai [] false]):=by
 unfold nT bj.Ie;by_cases c1:v.kind<1;·simp[h1,c1]
 by_cases c2:6<v.kind;·simp[h1,c1,c2]
 by_cases c3:8<v.ar.length
 ·have c3':(8:Int)<v.ar.length:=by omega
  simp[h1,c1,c2,c3,c3']
 have c3':¬(8:Int)<v.ar.length:=by omega
 have pe:decide (0<v.ar.length)= !v.ar.isEmpty:=by cases v.ar<;>simp
 by_cases c4:v.kind=4;·simp[h1,c3,c3',c4,tt]
 by_cases c5:v.kind=5;·simp[h1,c3,c3',c5]
 cases hw:v.ar.isEmpty
 ·rw[hw]at pe
  simp[h1,c1,c2,c3,c3',c4,c5,pe]
 ·rw[hw]at pe
  have:v.ar=[]:=by simpa using hw
  simp[h1,c1,c2,c4,c5,this]
end
section
variable(v:bj)(hv:v.Of)
include hv
theorem Fa(i:Nat)(y:bq)(hi:v.ar[i]? =some y)(nb:Nat)(S:St):∀d j,j+d=i->
 DC ax nk (.loop eI) ⟨[(1,.ptr S.length 0),(4,.int .i64 (i:Nat)),(5,.int .i64 (j:Nat))],[],nb⟩ (S++[.mem v.ai [] false])=if((v.ar.take i).drop j).all (fun t=> !PK (decide (v.kind=5)) y t)then some (.exit 2,⟨[(1,.ptr S.length 0),(4,.int .i64 (i:Nat))],[],nb⟩,S++[.mem v.ai [] false])else some (.ret,⟨[(2,.bool false)],[],nb⟩,S++[.mem v.ai [] false]):=by
 have hl:=hv.ar;have hil:i<v.ar.length:=(fI.1 hi).1;intro d;induction d with
 |zero=>
  intro j hj;rw[aj,ak eI.eq_1];have h5:¬j<i:=by omega
  have h6:(v.ar.take i).drop j=[]:=dV (by simp;omega);simp[h5,h6]
 |succ d ih=>
  intro j hj;have h3:j<i:=by omega
  rw[aj,ak eI.eq_1];obtain⟨z,hz,hz'⟩:=aE (l:=v.ar) (i:=j) (by omega);have hz2:(v.ar.take i)[j]? =some z:=by rw[WH h3];exact hz
  rw[aJ hz2];have hr:=ih (j+1) (by omega);have hw:=aV (i:=j) (by omega);simp at hr hw;by_cases e:y=z
  ·subst e
   simp[jd,h3,hz,hi,PK]
  ·by_cases c5:v.kind=5
   ·cases hb:Op.bytesLess y z
    ·simp[c5]at hr
     simp[jd,h3,hz,hi,PK,e,c5,hb];rw[ae eI.eq_1];simp[hw];simpa[PK]using hr
    ·simp[jd,h3,hz,hi,PK,e,c5,hb]
   ·simp[c5]at hr
    simp[jd,h3,hz,hi,PK,e,c5];rw[ae eI.eq_1];simp[hw];simpa[PK]using hr
theorem Fb(nb:Nat)(S:St):∀d i,i+d=v.ar.length->
 DC ax nk (.loop bM) ⟨[(1,.ptr S.length 0),(4,.int .i64 (i:Nat))],[],nb⟩ (S++[.mem v.ai [] false])=if okW (decide (v.kind=5)) (v.ar.take i) (v.ar.drop i)then some (.exit 0,⟨[(1,.ptr S.length 0)],[],nb⟩,S++[.mem v.ai [] false])else some (.ret,⟨[(2,.bool false)],[],nb⟩,S++[.mem v.ai [] false]):=by
 have hl:=hv.ar;intro d;induction d with
 |zero=>
  intro i hi;rw[aj,ak bM.eq_1];have h5:¬i<v.ar.length:=by omega
  have h6:v.ar.drop i=[]:=dV (by omega);simp[h5,h6,okW]
 |succ d ih=>
  intro i hi;have h3:i<v.ar.length:=by omega
  rw[aj,ak bM.eq_1];obtain⟨y,hy,gg⟩:=aE (l:=v.ar) (i:=i) (by omega);rw[aJ hy];have hr:=ih (i+1) (by omega);have hw:=aV (i:=i) (by omega);have ht:v.ar.take (i+1)=v.ar.take i++[y]:=by rw[sW,hy];rfl
  rw[ht]at hr;have LC:=Fa v hv i y hy nb S i 0 (by omega);have ZQ:=ji y (hv.word y (eT hy)) (S++[.mem v.ai [] false]);simp only[jS]at LC;simp only[okW];have bb:∀q:Bool,q=false\/q=true:=fun q=>by cases q<;>simp
  rcases bb (dq y)with hx|hx
  ·rw[hx]at ZQ
   simp only[hx,Bool.false_and];simp[h3,gg,ZQ,bF]
  ·rw[hx]at ZQ
   rcases bb ((v.ar.take i).all fun t=> !PK (decide (v.kind=5)) y t)with SR|SR
   ·rw[SR]at LC
    simp at LC;simp only[hx,SR,MK,Bool.false_and];simp[h3,gg,ZQ,bF];rw[ae eI.eq_1];simp[LC]
   ·rw[SR]at LC
    simp at LC hw hr;simp only[hx,SR,MK];simp[h3,gg,ZQ,bF];rw[ae eI.eq_1];simp[LC];rw[ae bM.eq_1];simp[hw];exact hr
theorem Fc(S:St)(hF:∀x∈v.parts,∀S,DF ax nk 181 [.agg x.ai] S=some (.bool x.cO,S))(nb:Nat):∀d i,i+d=v.parts.length->
 DC ax nk (.loop c_) ⟨[(1,.ptr S.length 0),(6,.int .i64 (i:Nat))],[],nb⟩ (S++[.mem v.ai [] false])=if(v.parts.drop i).all bj.cO then some (.exit 4,⟨[],[],nb⟩,S++[.mem v.ai [] false])else some (.ret,⟨[(2,.bool false)],[],nb⟩,S++[.mem v.ai [] false]):=by
 have hl:=hv.parts;intro d;induction d with
 |zero=>
  intro i hi;rw[aj,ak c_.eq_1];have h5:¬i<v.parts.length:=by omega
  have h6:v.parts.drop i=[]:=dV (by omega);simp[h5,h6]
 |succ d ih=>
  intro i hi;have h3:i<v.parts.length:=by omega
  rw[aj,ak c_.eq_1];obtain⟨y,hy,gg⟩:=aE (l:=v.parts) (i:=i) (by omega);rw[aJ hy];have hr:=ih (i+1) (by omega);have hw:=aV (i:=i) (by omega);have hc:=hF y (eT hy) (S++[.mem v.ai [] false]);simp only[TF];rcases Bool.eq_false_or_eq_true y.cO with hx|hx;rotate_left
  ·rw[hx]at hc
   simp[h3,gg,hc,hx,bF]
  ·rw[hx]at hc
   simp[h3,gg,hc,hx,bF];rw[ae c_.eq_1];simp at hw hr;simp[hw];exact hr
end
theorem Ju(v:bj):v.Wf->∀S:St,DF ax nk 181 [.agg v.ai] S=some (.bool v.cO,S):=by
 induction v using bj.ind with
 |h v ih=>
  intro hv S;rw[E9,ak qt.eq_1,bj.td,bj.Mm];have h0:=Fb v hv.one S.length S v.ar.length 0 (by omega);have h3:=Fc v hv.one S (fun x hx S'=>ih x hx (hv.all x hx) S') S.length v.parts.length 0 (by omega);simp only[jS,Ou]at h0 h3;have r0:=Du v S;have fin:(decide (v.parts.length=v.want)=true->DC ax nk (.loop bM) ⟨[(1,.ptr S.length 0),(4,.int .i64 ((0:Nat):Int))],[],S.length⟩ (S++[.mem v.ai [] false])=if okW (decide (v.kind=5)) [] v.ar then some (.exit 0,⟨[(1,.ptr S.length 0)],[],S.length⟩,S++[.mem v.ai [] false])else some (.ret,⟨[(2,.bool false)],[],S.length⟩,S++[.mem v.ai [] false])):=fun _=>h0;cases b0:v.Ie
  ·rw[b0]at r0
   simp[r0];by_cases hq:v.parts.length=v.want
   ·have hq5:v.kind=5->v.parts.length=v.ar.length:=fun e=>by rw[hq];unfold bj.want;rw[if_pos e]
    have hq6:v.kind=6->v.parts.length=1:=fun e=>by rw[hq];unfold bj.want;rw[if_neg (by omega),if_pos e]
    have hq0:v.kind≠5->v.kind≠6->v.parts.length=0:=fun e f=>by rw[hq];unfold bj.want;rw[if_neg e,if_neg f]
    cases g0:okW (decide (v.kind=5)) [] v.ar
    ·rw[g0]at h0
     simp at h0;by_cases c5:v.kind=5
     ·simp[c5,hq5 c5]
      rw[ae bM.eq_1];simp[h0]
     ·by_cases c6:v.kind=6
      ·simp[c6,hq6 c6]
       rw[ae bM.eq_1];simp[h0]
      ·simp[c5,c6,hq0 c5 c6]
       rw[ae bM.eq_1];simp[h0]
    ·rw[g0]at h0
     simp at h0;have hd:decide (v.parts.length=v.want)=true:=by simpa using hq
     cases g3:v.parts.all bj.cO
     ·rw[g3]at h3
      simp at h3;by_cases c5:v.kind=5
      ·simp[c5,hq5 c5]
       rw[ae bM.eq_1];simp[h0];rw[ae c_.eq_1];simp[h3]
      ·by_cases c6:v.kind=6
       ·simp[c6,hq6 c6]
        rw[ae bM.eq_1];simp[h0];rw[ae c_.eq_1];simp[h3]
       ·simp[c5,c6,hq0 c5 c6]
        rw[ae bM.eq_1];simp[h0];rw[ae c_.eq_1];simp[h3]
     ·rw[g3]at h3
      simp at h3;by_cases c5:v.kind=5
      ·simp[c5,hq5 c5]
       rw[ae bM.eq_1];simp[h0];rw[ae c_.eq_1];simp[h3];omega
      ·by_cases c6:v.kind=6
       ·simp[c6,hq6 c6]
        rw[ae bM.eq_1];simp[h0];rw[ae c_.eq_1];simp[h3];omega
       ·simp[c5,c6,hq0 c5 c6]
        rw[ae bM.eq_1];simp[h0];rw[ae c_.eq_1];simp[h3];omega
   ·have hd:decide (v.parts.length=v.want)=false:=by simpa using hq
    unfold bj.want at hq hd;by_cases c5:v.kind=5
    ·rw[if_pos c5]at hq
     simp[c5,hq,bj.want]
    ·by_cases c6:v.kind=6
     ·rw[if_neg c5,if_pos c6]at hq
      have hq':¬((v.parts.length:Int)=1):=by omega
      simp[c6,hq,hq',bj.want]
     ·rw[if_neg c5,if_neg c6]at hq
      have hq2:¬v.parts=[]:=fun e=>by rw[e]at hq;exact hq rfl
      have hq':¬((v.parts.length:Int)=0):=by omega
      simp[c5,c6,hq,bj.want]
  ·rw[b0]at r0
   simp[r0]
theorem Jv(v:bj)(hv:v.Wf)(hd:v.depth<1000000)(S:St):DF ax nk 149 [.agg v.ai] S=some (.bool (v.aR 5),S):=by
 rw[E7,ak qq.eq_1,bj.CY];have h1:=Jt v hv hd (S++[.mem v.ai [] false]);have h2:=Ju v hv (S++[.mem v.ai [] false]);by_cases c:v.depth<=5
 ·have c':(v.depth:Int)<=5:=by omega
  simp[h1,h2,c,c']
 ·have c':¬(v.depth:Int)<=5:=by omega
  simp[h1,c,c']
end
theorem aX.ab9(v:aX)(t:bj):v.tQ t=(decide (v.kind=t.kind)&&((if v.kind=4 then t.ar.contains v.s else true)&&((if v.kind=5 then decide (v.aU=t.ar)else true)&&(if v.kind=6 then aX.Jk v.parts t else aX.uq v.parts t.parts)))):=by cases v;rw[aX.tQ];rfl
def m7(v:aX)(t:bj)(i:Nat):Bool:=if t.kind=6 then aX.Jk (v.parts.drop i) t else aX.uq (v.parts.drop i) (t.parts.drop i)
theorem Fe(l m:List bq)(hb:l.length<9223372036854775808)(Cn:m.length<9223372036854775808)(S:St):DF ax nk 135 [cw l,cw m] S=some (.bool (decide (l=m)),S):=by rw[oB l m hb Cn S,jr]
theorem vU(v:aX)(s:bj)(j:Nat)(hl:v.parts.length<9223372036854775808)(nb:Nat)
 (h6:s.kind=6->∃t,s.parts[0]? =some t/\s.parts=[t]) (h5:s.kind≠6->s.parts.length=v.parts.length)
 (hF:∀x∈v.parts,∀t∈s.parts,∀S,DF ax nk 160 [.agg x.ai,.agg t.ai] S=some (.bool (x.tQ t),S)):∀d i(T:St),i+d=v.parts.length->T[j]? =some (.mem s.ai [] false)->
 ∃G,DC ax nk (.loop dC) ⟨[(3,.ptr j 0),(40,lU v.parts),(41,.int .i64 v.parts.length),(42,.int .i64 (i:Nat))],[],nb⟩ T=if m7 v s i then some (.exit 0,⟨[],[],nb⟩,T++G)else some (.ret,⟨[(4,.bool false)],[],nb⟩,T++G):=by
 intro d;induction d with
 |zero=>
  intro i T hi hT;refine⟨[], ?_⟩;rw[aj,ak dC.eq_1];have h5:¬i<v.parts.length:=by omega
  have h6:v.parts.drop i=[]:=dV (by omega);have hf:m7 v s i=true:=by unfold m7;rw[h6];split<;>simp[aX.Jk,aX.uq]
  simp[h5,hf]
 |succ d ih=>
  intro i T hi hT;have h3:i<v.parts.length:=by omega
  obtain⟨y,hy,gg⟩:=aE (l:=v.parts) (i:=i) (by omega);have hw:=aV (i:=i) (by omega);have vG:aL ab 0 y.ai=y.ai:=bX (by simp[ab]);have hT2:(T++[.mem y.ai [] false])[j]? =some (.mem s.ai [] false):=cd _ hT;have hT3:∀b,(T++[b])[j]? =some (.mem s.ai [] false):=fun b=>cd _ hT;have l0:∀b,aY (T++[b]) .cell (.ptr j 0)=some (.int .i64 s.kind):=fun b=>by rw[bd (hT3 b)];simp
  have l2:∀b,aY (T++[b]) .cell (.ptr j 2)=some (oU s.parts):=fun b=>by rw[bd (hT3 b)];simp
  obtain⟨G,hn⟩:=ih (i+1) (T++[.mem y.ai [] false]) (by omega) hT2;by_cases k6:s.kind=6
  ·obtain⟨t,ht,hts⟩:=h6 k6
   have hc:=hF y (eT hy) t (by rw[hts];simp) (T++[.mem y.ai [] false]);have hr:m7 v s i=(y.tQ t&&m7 v s (i+1)):=by unfold m7;rw[if_pos k6,if_pos k6,aJ hy,aX.Jk,hts]
   have ix:=z_ s.parts .i64 0;rw[ht]at ix;cases hx:y.tQ t
   ·rw[hx]at hc
    refine⟨[.mem y.ai [] false], ?_⟩;rw[aj,ak dC.eq_1];simp at ix;simp[h3,gg,vG,l0,l2,k6,ix,hc,hr,hx,bF]
   ·rw[hx]at hc
    refine⟨.mem y.ai [] false::G, ?_⟩;rw[aj,ak dC.eq_1];simp at ix hw hn;simp[h3,gg,vG,l0,l2,k6,ix,hc,hr,hx,bF];rw[ae dC.eq_1];simp[hw,hn]
  ·have hlen:=h5 k6
   obtain⟨t,ht,ht'⟩:=aE (l:=s.parts) (i:=i) (by omega);have hc:=hF y (eT hy) t (eT ht) (T++[.mem y.ai [] false]);have hr:m7 v s i=(y.tQ t&&m7 v s (i+1)):=by unfold m7;rw[if_neg k6,if_neg k6,aJ hy,aJ ht,aX.uq]
   have ix:=z_ s.parts .i64 i;rw[ht]at ix;cases hx:y.tQ t
   ·rw[hx]at hc
    refine⟨[.mem y.ai [] false], ?_⟩;rw[aj,ak dC.eq_1];simp at ix;simp[h3,gg,vG,l0,l2,k6,ht,hc,hr,hx,bF]
   ·rw[hx]at hc
    refine⟨.mem y.ai [] false::G, ?_⟩;rw[aj,ak dC.eq_1];simp at ix hw hn;simp[h3,gg,vG,l0,l2,k6,ht,hc,hr,hx,bF];rw[ae dC.eq_1];simp[hw,hn]
theorem bj.ajZ{d:Nat}{s:bj}(h:s.aR d=true)(k:s.kind=6):∃t,s.parts[0]? =some t/\s.parts=[t]:=by
 cases d with
 |zero=>simp[bj.aR]at h
 |succ d=>
  have R:=bj.fa h;have:=(R.k6 k).2;match hp:s.parts,this with
  |[t],_=>exact⟨t,rfl,rfl⟩
theorem aX.Mn{d:Nat}{v:aX}(h:v.aR d=true)(k5:v.kind≠5)(k6:v.kind≠6):v.parts=[]:=by
 cases d with
 |zero=>simp[aX.aR]at h
 |succ d=>exact((aX.fa h).bare k5 k6).2.2
theorem aX.Jw{d:Nat}{v:aX}(h:v.aR d=true):∀x∈v.parts,∃d',x.aR d'=true:=by
 cases d with
 |zero=>simp[aX.aR]at h
 |succ d=>exact fun x hx=>⟨d,(aX.fa h).all x hx⟩
theorem bj.Jw{d:Nat}{v:bj}(h:v.aR d=true):∀x∈v.parts,∃d',x.aR d'=true:=by
 cases d with
 |zero=>simp[bj.aR]at h
 |succ d=>exact fun x hx=>⟨d,(bj.fa h).all x hx⟩
theorem aX.U2{d:Nat}{v:aX}(h:v.aR d=true)(k:v.kind=5):v.parts.length=v.aU.length:=by
 cases d with
 |zero=>simp[aX.aR]at h
 |succ d=>exact((aX.fa h).k5 k).2.1
theorem bj.U2{d:Nat}{v:bj}(h:v.aR d=true)(k:v.kind=5):v.parts.length=v.ar.length:=by
 cases d with
 |zero=>simp[bj.aR]at h
 |succ d=>exact((bj.fa h).k5 k).2.2
theorem bj.Mn{d:Nat}{v:bj}(h:v.aR d=true)(k5:v.kind≠5)(k6:v.kind≠6):v.parts=[]:=by
 cases d with
 |zero=>simp[bj.aR]at h
 |succ d=>
  have R:=bj.fa h;rcases R.kind with k|k|k|k|k|k;·exact(R.k13 (.inl k)).2
  ·exact(R.k13 (.inr (.inl k))).2
  ·exact(R.k13 (.inr (.inr k))).2
  ·exact(R.k4 k).2.2.2.2
  ·exact absurd k k5
  ·exact absurd k k6
theorem Ws(v:aX):v.Wf->∀(d e:Nat)(s:bj),s.Wf->v.aR d=true->s.aR e=true->∀S,DF ax nk 160 [.agg v.ai,.agg s.ai] S=some (.bool (v.tQ s),S):=by
 induction v using aX.ind with
 |h v ih=>
  intro hv d e s hs hr Co S;rw[Rq,ak Ca.eq_1,aX.ab9];have hF:∀x∈v.parts,∀t∈s.parts,∀S,DF ax nk 160 [.agg x.ai,.agg t.ai] S=some (.bool (x.tQ t),S):=by intro x hx t ht S;obtain⟨d',h1⟩:=aX.Jw hr x hx;obtain⟨e',h2⟩:=bj.Jw Co t ht;exact ih x hx (hv.all x hx) d' e' t (hs.all t ht) h1 h2 S
  have aml:=r9 s.ar v.s hs.one.ar (S++[.mem v.ai [] false,.mem s.ai [] false]);have heq:=Fe v.aU s.ar hv.one.aU hs.one.ar (S++[.mem v.ai [] false,.mem s.ai [] false]);by_cases k0:v.kind=s.kind;rotate_left;·simp[gL,k0]
  by_cases k4:v.kind=4
  ·have k4':s.kind=4:=by omega
   have hp:v.parts=[]:=aX.Mn hr (by omega) (by omega);cases hx:s.ar.contains v.s
   ·rw[hx]at aml
    simp[gL,k4,k4',aml,bF]
   ·rw[hx]at aml
    obtain⟨G,h⟩:=vU v s (S.length+1) hv.one.parts S.length (fun k=>by omega) (fun _=>by rw[hp,bj.Mn Co (by omega) (by omega)];rfl) hF v.parts.length 0 (S++[.mem v.ai [] false,.mem s.ai [] false]) (by omega) (by simp);rw[hp]at h;simp[m7,k4',hp,aX.uq]at h;simp[gL,k4,k4',aml,bF,hp,aX.uq];rw[ae dC.eq_1];simp[h]
  by_cases k5:v.kind=5
  ·have k5':s.kind=5:=by omega
   have e1:=aX.U2 hr k5;have e2:=bj.U2 Co k5';by_cases hx:v.aU=s.ar
   ·rw[decide_eq_true hx,hx]at heq
    obtain⟨G,h⟩:=vU v s (S.length+1) hv.one.parts S.length (fun k=>by omega) (fun _=>by rw[e1,e2,hx]) hF v.parts.length 0 (S++[.mem v.ai [] false,.mem s.ai [] false]) (by omega) (by simp);simp[m7,k5']at h;cases hq:aX.uq v.parts s.parts
    ·simp[hq]at h
     simp[gL,k5,k5',heq,hx,bF];rw[ae dC.eq_1];simp[h]
    ·simp[hq]at h
     simp[gL,k5,k5',heq,hx,bF];rw[ae dC.eq_1];simp[h]
   ·rw[decide_eq_false hx]at heq
    simp[gL,k5,k5',heq,hx,bF]
  by_cases k6:v.kind=6
  ·have k6':s.kind=6:=by omega
   obtain⟨G,h⟩:=vU v s (S.length+1) hv.one.parts S.length (fun k=>bj.ajZ Co k) (fun k=>absurd k6' k) hF v.parts.length 0 (S++[.mem v.ai [] false,.mem s.ai [] false]) (by omega) (by simp);simp[m7,k6']at h;cases hq:aX.Jk v.parts s
   ·simp[hq]at h
    simp[gL,k6,k6'];rw[ae dC.eq_1];simp[h]
   ·simp[hq]at h
    simp[gL,k6,k6'];rw[ae dC.eq_1];simp[h]
  have hp:v.parts=[]:=aX.Mn hr k5 k6;have hp':s.parts=[]:=bj.Mn Co (by omega) (by omega);obtain⟨G,h⟩:=vU v s (S.length+1) hv.one.parts S.length (fun k=>by omega) (fun _=>by rw[hp,hp'];rfl) hF v.parts.length 0 (S++[.mem v.ai [] false,.mem s.ai [] false]) (by omega) (by simp);rw[hp]at h;have k6':¬s.kind=6:=by omega
  have k5':¬s.kind=5:=by omega
  have k4':¬s.kind=4:=by omega
  simp[m7,k6',hp,aX.uq]at h;simp[gL,k0,k4',k5',k6',hp,aX.uq];rw[ae dC.eq_1];simp[h]
theorem BW(v:aX)(s:bj)(hv:v.Wf)(hs:s.Wf)(S:St):DF ax nk 119 [.agg v.ai,.agg s.ai] S=some (.bool (ni v s),S):=by
 rw[Rk,ak B6.eq_1];have h1:=vM v hv (S++[.mem v.ai [] false,.mem s.ai [] false]);have h2:=Jr s hs (S++[.mem v.ai [] false,.mem s.ai [] false]);unfold ni;cases hr:v.aR 5
 ·rw[hr]at h1
  simp[h1]
 ·rw[hr]at h1
  cases Co:s.aR 5
  ·rw[Co]at h2
   simp[h1,h2]
  ·rw[Co]at h2
   have h3:=Ws v hv 5 5 s hs hr Co (S++[.mem v.ai [] false,.mem s.ai [] false]);simp[h1,h2,h3]
theorem FA(s:bj)(S:St):DF ax nk 121 [.agg s.ai] S=some (.bool (decide (1<=s.kind)&&decide (s.kind<=4)),S):=by
 rw[NJ,ak xR.eq_1];by_cases h:1<=s.kind;·simp[h]
 ·simp[h]
section
section
variable(v:aX)(s:bj)(hv:v.Wf)(hs:s.Wf)
include hs in
theorem U3(nb:Nat)(S:St):DC ax nk (.loop eY) ⟨[(2,.ptr S.length 0),(3,.ptr (S.length+1) 0),(5,.int .i64 0)],[],nb⟩ (S++[.mem v.ai [] false,.mem s.ai [] false])=
 if s.ar.contains v.s then some (.ret,⟨[(4,.bool true)],[],nb⟩,S++[.mem v.ai [] false,.mem s.ai [] false])else some (.exit 0,⟨[],[],nb⟩,S++[.mem v.ai [] false,.mem s.ai [] false]):=by
 have hl:=hs.one.ar
 have:=OY s.ar (fun w=> !decide (w=v.s)) (fun i=>DC ax nk (.loop eY) ⟨[(2,.ptr S.length 0),(3,.ptr (S.length+1) 0),(5,.int .i64 (i:Nat))],[],nb⟩ (S++[.mem v.ai [] false,.mem s.ai [] false]))
  (some (.exit 0,⟨[],[],nb⟩,S++[.mem v.ai [] false,.mem s.ai [] false])) (some (.ret,⟨[(4,.bool true)],[],nb⟩,S++[.mem v.ai [] false,.mem s.ai [] false])) ?_ ?_
 ·have e:(s.ar.all fun w=> !decide (w=v.s))= !s.ar.contains v.s:=by rw[lQ,j7];simp only[P3,decide_eq_false_iff_not,adr];exact⟨fun g h=>g _ h rfl,fun g x hx e=>g (e▸hx)⟩
  rw[e]at this;simp at this;rw[this];by_cases hc:v.s∈s.ar<;>simp[hc]
 ·intro i x hx
  have hi:=(fI.1 hx).1;have kM:∀h:i<s.ar.length,s.ar[i]=x:=fun h=>(fI.1 hx).2;have hw:=aV (i:=i) (by omega);simp at hw;rw[aj,ak eY.eq_1];by_cases e:x=v.s
  ·subst e
   simp[hi,kM]
  ·simp[hi,kM,e]
   rw[ae eY.eq_1];simp[hw]
 ·rw[aj,ak eY.eq_1]
  simp
include hv in
theorem U4(hn:v.aU.length=s.ar.length)(hp:v.parts.length=v.aU.length)(hq:s.parts.length=s.ar.length)(nb:Nat)(S:St)
 (hF:∀x∈v.parts,∀t∈s.parts,∀S,DF ax nk 150 [.agg x.ai,.agg t.ai] S=some (.bool (x.tQ t),S)):∀d i,i+d=v.aU.length->
 DC ax nk (.loop fY) ⟨[(2,.ptr S.length 0),(3,.ptr (S.length+1) 0),(6,.int .i64 (i:Nat))],[],nb⟩ (S++[.mem v.ai [] false,.mem s.ai [] false])=
 if decide (v.aU.drop i=s.ar.drop i)&&aX.uq (v.parts.drop i) (s.parts.drop i)then some (.exit 2,⟨[(2,.ptr S.length 0),(3,.ptr (S.length+1) 0)],[],nb⟩,S++[.mem v.ai [] false,.mem s.ai [] false])else some (.ret,⟨[(4,.bool false)],[],nb⟩,S++[.mem v.ai [] false,.mem s.ai [] false]):=by
 have hl:=hv.one.aU;intro d;induction d with
 |zero=>
  intro i hi;rw[aj,ak fY.eq_1];have h5:¬i<v.aU.length:=by omega
  have e1:v.aU.drop i=[]:=dV (by omega);have e2:s.ar.drop i=[]:=dV (by omega);have e3:v.parts.drop i=[]:=dV (by omega);simp[h5,e1,e2,e3,aX.uq]
 |succ d ih=>
  intro i hi;have h3:i<v.aU.length:=by omega
  obtain⟨a,ha,JY⟩:=aE (l:=v.aU) (i:=i) (by omega);obtain⟨b,hb,Cn⟩:=aE (l:=s.ar) (i:=i) (by omega);obtain⟨x,hx,kM⟩:=aE (l:=v.parts) (i:=i) (by omega);obtain⟨t,ht,ht'⟩:=aE (l:=s.parts) (i:=i) (by omega);have hr:=ih (i+1) (by omega);have hw:=aV (i:=i) (by omega);have hc:=hF x (eT hx) t (eT ht) (S++[.mem v.ai [] false,.mem s.ai [] false]);rw[aJ ha,aJ hb,aJ hx,aJ ht,aX.uq];rw[aj,ak fY.eq_1];by_cases e:a=b
  ·subst e
   cases hf:x.tQ t
   ·rw[hf]at hc
    simp[kO,h3,JY,hb,hx,ht,hc,bF]
   ·rw[hf]at hc
    simp at hw hr;simp[kO,h3,JY,hb,hx,ht,hc,bF];rw[ae fY.eq_1];simp[hw];exact hr
  ·simp[kO,h3,JY,hb,e]
include hv in
theorem U5(t:bj)(hq:s.parts=[t])(nb:Nat)(S:St)
 (hF:∀x∈v.parts,∀t∈s.parts,∀S,DF ax nk 150 [.agg x.ai,.agg t.ai] S=some (.bool (x.tQ t),S)):∀d i,i+d=v.parts.length->
 DC ax nk (.loop fZ) ⟨[(2,.ptr S.length 0),(3,.ptr (S.length+1) 0),(7,.int .i64 (i:Nat))],[],nb⟩ (S++[.mem v.ai [] false,.mem s.ai [] false])=
 if aX.Jk (v.parts.drop i) s then some (.exit 4,⟨[],[],nb⟩,S++[.mem v.ai [] false,.mem s.ai [] false])else some (.ret,⟨[(4,.bool false)],[],nb⟩,S++[.mem v.ai [] false,.mem s.ai [] false]):=by
 have hl:=hv.one.parts;intro d;induction d with
 |zero=>
  intro i hi;rw[aj,ak fZ.eq_1];have h5:¬i<v.parts.length:=by omega
  have e3:v.parts.drop i=[]:=dV (by omega);simp[h5,e3,aX.Jk]
 |succ d ih=>
  intro i hi;have h3:i<v.parts.length:=by omega
  obtain⟨x,hx,kM⟩:=aE (l:=v.parts) (i:=i) (by omega);have hr:=ih (i+1) (by omega);have hw:=aV (i:=i) (by omega);have hc:=hF x (eT hx) t (by rw[hq];simp) (S++[.mem v.ai [] false,.mem s.ai [] false]);have ix:=z_ s.parts .i64 0;rw[hq]at ix;simp at ix;rw[aJ hx,aX.Jk,hq];rw[aj,ak fZ.eq_1];cases hf:x.tQ t
  ·rw[hf]at hc
   simp[h3,kM,hq,ix,hc,hf,bF]
  ·rw[hf]at hc
   simp at hw hr;simp[h3,kM,hq,ix,hc,hf,bF];rw[ae fZ.eq_1];simp[hw];exact hr
end
theorem Kx(v:aX):v.Wf->∀(d e:Nat)(s:bj),s.Wf->v.aR d=true->s.aR e=true->∀S,DF ax nk 150 [.agg v.ai,.agg s.ai] S=some (.bool (v.tQ s),S):=by
 induction v using aX.ind with
 |h v ih=>
  intro hv d e s hs hr Co S;rw[GP,ak rE.eq_1,aX.ab9];have hF:∀x∈v.parts,∀t∈s.parts,∀S,DF ax nk 150 [.agg x.ai,.agg t.ai] S=some (.bool (x.tQ t),S):=by intro x hx t ht S;obtain⟨d',h1⟩:=aX.Jw hr x hx;obtain⟨e',h2⟩:=bj.Jw Co t ht;exact ih x hx (hv.all x hx) d' e' t (hs.all t ht) h1 h2 S
  by_cases k0:v.kind=s.kind;rotate_left;·simp[k0]
  by_cases k4:v.kind=4
  ·have k4':s.kind=4:=by omega
   have hp:v.parts=[]:=aX.Mn hr (by omega) (by omega);have h:=U3 v s hs S.length S;cases hx:s.ar.contains v.s
   ·rw[hx]at h
    simp at h;simp[k4,k4'];rw[ae eY.eq_1];simp[h]
   ·rw[hx]at h
    simp at h;simp[k4,k4'];rw[ae eY.eq_1];have kM:v.s∈s.ar:=by simpa using hx
    simp[h,hp,aX.uq]
  by_cases k5:v.kind=5
  ·have k5':s.kind=5:=by omega
   have e1:=aX.U2 hr k5;have e2:=bj.U2 Co k5';by_cases hn:v.aU.length=s.ar.length
   ·have h:=U4 v s hv hn e1 e2 S.length S hF v.aU.length 0 (by omega)
    simp only[jS]at h;cases hx:(decide (v.aU=s.ar)&&aX.uq v.parts s.parts)
    ·rw[hx]at h
     simp at h;have hx2:¬(v.aU=s.ar/\aX.uq v.parts s.parts=true):=by intro g;rw[g.1,g.2]at hx;simp at hx
     simp[k5,k5',hn];rw[ae fY.eq_1];simp[h];intro g;cases hz:aX.uq v.parts s.parts with
     |false=>rfl
     |true=>exact absurd ⟨g,hz⟩ hx2
    ·rw[hx]at h
     simp at h;simp at hx;simp[k5,k5',hn];rw[ae fY.eq_1];simp[h,k5,hx.1,hx.2]
   ·have Cr:¬v.aU=s.ar:=fun e=>hn (by rw[e])
    simp[k5,k5',hn,Cr]
  by_cases k6:v.kind=6
  ·have k6':s.kind=6:=by omega
   obtain⟨t,_,hts⟩:=bj.ajZ Co k6';have h:=U5 v s hv t hts S.length S hF v.parts.length 0 (by omega);simp only[jS]at h;cases hx:aX.Jk v.parts s
   ·rw[hx]at h
    simp at h;simp[k6,k6'];rw[ae fZ.eq_1];simp[h]
   ·rw[hx]at h
    simp at h;simp[k6,k6'];rw[ae fZ.eq_1];simp[h]
  have hp:v.parts=[]:=aX.Mn hr k5 k6;have k6':¬s.kind=6:=by omega
  have k5':¬s.kind=5:=by omega
  have k4':¬s.kind=4:=by omega
  simp[k0,k4',k5',k6',hp,aX.uq]
theorem yG(v:aX)(s:bj)(hv:v.Wf)(hs:s.Wf)(hd:v.depth<1000000)(hd':s.depth<1000000)(S:St):DF ax nk 103 [.agg v.ai,.agg s.ai] S=some (.bool (ni v s),S):=by
 rw[GO,ak rD.eq_1];have h1:=pU v hv hd (S++[.mem v.ai [] false,.mem s.ai [] false]);have h2:=Jv s hs hd' (S++[.mem v.ai [] false,.mem s.ai [] false]);unfold ni;cases hr:v.aR 5
 ·rw[hr]at h1
  simp[h1]
 ·rw[hr]at h1
  cases Co:s.aR 5
  ·rw[Co]at h2
   simp[h1,h2]
  ·rw[Co]at h2
   have h3:=Kx v hv 5 5 s hs hr Co (S++[.mem v.ai [] false,.mem s.ai [] false]);simp[h1,h2,h3]
end
theorem CV{α:Type}(l m:List α):qP same l m=same l m:=Hz fun _ _ _ _=>rfl
theorem tR{α:Type}{l m:List α}(h:¬m.length=l.length):same l m=false:=fc.2 fun e=>h (by rw[e])
@[simp]theorem atx(a b:bq):same a b=decide (a=b):=jr a b
@[simp]theorem aty(a b:Int):same a b=decide (a=b):=jr a b
theorem J1(l m:List dK)(nb:Nat)(S:St)(n:Nat)(hl:(l).length=n)(hm:(m).length=n)(hb:n<9223372036854775808):∀d i,i+d=n->
 DC ax nk (.loop ia) ⟨[(0,eD l),(1,eD m),(5,.int .i64 (i:Nat))],[],nb⟩ (S)=if qP (same:dK->dK->Bool) ((l).drop i) ((m).drop i)=true then some (.exit 0,⟨[],[],nb⟩,S)else some (.ret,⟨[(4,.bool false)],[],nb⟩,S):=by
 intro d;induction d with
 |zero=>
  intro i hi;rw[aj,ak ia.eq_1];have h3:(l).drop i=[]:=dV (by omega);have h4:(m).drop i=[]:=dV (by omega);have h5:¬i<n:=by omega
  simp[h3,h4,h5,qP,hl]
 |succ d ih=>
  intro i hi;have h3:i<n:=by omega
  rw[aj,ak ia.eq_1];obtain⟨x,hx,kM⟩:=aE (l:=l) (i:=i) (by omega);obtain⟨y,hy,gg⟩:=aE (l:=m) (i:=i) (by omega);rw[aJ hx,aJ hy];have hn:=ih (i+1) (by omega);have hw:=aV (i:=i) (by omega);simp at hn hw;cases he:((same:dK->dK->Bool)) x y
  ·(try simp at he)
   simp[h3,kM,gg,he,qP,hl,hm]
  ·(try simp at he)
   simp[h3,kM,gg,he,qP,hl,hm];rw[ae ia.eq_1];simp[hw,hn]
theorem J2(l m:List dK)(hb:l.length<9223372036854775808)(S:St):DF ax nk 59 [eD l,eD m] S=some (.bool (same l m),S):=by
 rw[FW,ak qX.eq_1];by_cases hl:m.length=l.length
 ·have this:=J1 l m S.length S l.length rfl hl hb l.length 0 (by omega)
  simp[CV]at this;simp[hl];rw[ae ia.eq_1];simp[this];cases e:same l m<;>simp
 ·have tC:¬l.length=m.length:=fun e=>hl e.symm
  simp[tC,tR hl]
theorem HB(a b:bj)(S:St)(n:Nat)(hl:(a.ar).length=n)(hm:(b.ar).length=n)(hb:n<9223372036854775808):∀d i,i+d=n->
 DC ax nk (.loop ib) ⟨[(2,.ptr S.length 0),(3,.ptr (S.length+1) 0),(5,.int .i64 (i:Nat))],[],S.length⟩ (S++[.mem a.ai [] false,.mem b.ai [] false])=if qP (same:bq->bq->Bool) ((a.ar).drop i) ((b.ar).drop i)=true then some (.exit 0,⟨[(2,.ptr S.length 0),(3,.ptr (S.length+1) 0)],[],S.length⟩,S++[.mem a.ai [] false,.mem b.ai [] false])else some (.ret,⟨[(4,.bool false)],[],S.length⟩,S++[.mem a.ai [] false,.mem b.ai [] false]):=by
 intro d;induction d with
 |zero=>
  intro i hi;rw[aj,ak ib.eq_1];have h3:(a.ar).drop i=[]:=dV (by omega);have h4:(b.ar).drop i=[]:=dV (by omega);have h5:¬i<n:=by omega
  simp[h3,h4,h5,qP,hl]
 |succ d ih=>
  intro i hi;have h3:i<n:=by omega
  rw[aj,ak ib.eq_1];obtain⟨x,hx,kM⟩:=aE (l:=a.ar) (i:=i) (by omega);obtain⟨y,hy,gg⟩:=aE (l:=b.ar) (i:=i) (by omega);rw[aJ hx,aJ hy];have hn:=ih (i+1) (by omega);have hw:=aV (i:=i) (by omega);simp at hn hw;cases he:((same:bq->bq->Bool)) x y
  ·(try simp at he)
   simp[h3,kM,gg,he,qP,hl,hm]
  ·(try simp at he)
   simp[h3,kM,gg,he,qP,hl,hm];rw[ae ib.eq_1];simp[hw,hn]
theorem HC(a b:bj)(hF:∀x∈a.parts,∀y∈b.parts,∀S,DF ax nk 56 [.agg x.ai,.agg y.ai] S=some (.bool (same x y),S))(S:St)(n:Nat)(hl:(a.parts).length=n)(hm:(b.parts).length=n)(hb:n<9223372036854775808):∀d i,i+d=n->
 DC ax nk (.loop ic) ⟨[(2,.ptr S.length 0),(3,.ptr (S.length+1) 0),(6,.int .i64 (i:Nat))],[],S.length⟩ (S++[.mem a.ai [] false,.mem b.ai [] false])=if qP (same:bj->bj->Bool) ((a.parts).drop i) ((b.parts).drop i)=true then some (.exit 2,⟨[],[],S.length⟩,S++[.mem a.ai [] false,.mem b.ai [] false])else some (.ret,⟨[(4,.bool false)],[],S.length⟩,S++[.mem a.ai [] false,.mem b.ai [] false]):=by
 intro d;induction d with
 |zero=>
  intro i hi;rw[aj,ak ic.eq_1];have h3:(a.parts).drop i=[]:=dV (by omega);have h4:(b.parts).drop i=[]:=dV (by omega);have h5:¬i<n:=by omega
  simp[h3,h4,h5,qP,hl]
 |succ d ih=>
  intro i hi;have h3:i<n:=by omega
  rw[aj,ak ic.eq_1];obtain⟨x,hx,kM⟩:=aE (l:=a.parts) (i:=i) (by omega);obtain⟨y,hy,gg⟩:=aE (l:=b.parts) (i:=i) (by omega);rw[aJ hx,aJ hy];have hn:=ih (i+1) (by omega);have hw:=aV (i:=i) (by omega);have hf:=hF x (eT hx) y (eT hy);simp at hn hw;cases he:((same:bj->bj->Bool)) x y
  ·(try simp at he)
   simp[h3,kM,gg,he,qP,bF,hl,hm,hf]
  ·(try simp at he)
   simp[h3,kM,gg,he,qP,bF,hl,hm,hf];rw[ae ic.eq_1];simp[hw,hn]
theorem yB(a:bj):∀(b:bj),a.Small->b.Small->∀S,DF ax nk 56 [.agg a.ai,.agg b.ai] S=some (.bool (same a b),S):=by
 induction a using bj.ind with
 |h a ih=>
  intro b ha hb S;obtain⟨_,a1,a3,a4⟩:=ha;obtain⟨_,b1,b3,b4⟩:=hb;rw[FX,ak qY.eq_1,bj.jr];by_cases c0:a.kind=b.kind;rotate_left;·simp[js,c0]
  by_cases c1:b.ar.length=a.ar.length;rotate_left
  ·have c1':¬a.ar.length=b.ar.length:=fun e=>c1 e.symm
   simp[js,c0,c1',tR c1]
  by_cases c2:b.parts.length=a.parts.length;rotate_left
  ·have c2':¬a.parts.length=b.parts.length:=fun e=>c2 e.symm
   simp[js,c0,c1,c2',tR c2]
  have h1:=HB a b S a.ar.length rfl c1 a1 a.ar.length 0 (by omega);have h2:=HC a b (fun x hx y hy S=>ih x hx y (a4 x hx) (b4 y hy) S) S a.parts.length rfl c2 a3 a.parts.length 0 (by omega);simp[CV]at h1 h2;simp[js,c0,c1,c2];rw[ae ib.eq_1];simp[h1];cases c3:same a.ar b.ar;·simp
  simp;rw[ae ic.eq_1];simp[h2];cases c4:same a.parts b.parts<;>simp
theorem HD(a b:aX)(S:St)(n:Nat)(hl:(a.aU).length=n)(hm:(b.aU).length=n)(hb:n<9223372036854775808):∀d i,i+d=n->
 DC ax nk (.loop ie) ⟨[(2,.ptr S.length 0),(3,.ptr (S.length+1) 0),(5,.int .i64 (i:Nat))],[],S.length⟩ (S++[.mem a.ai [] false,.mem b.ai [] false])=if qP (same:bq->bq->Bool) ((a.aU).drop i) ((b.aU).drop i)=true then some (.exit 0,⟨[(2,.ptr S.length 0),(3,.ptr (S.length+1) 0)],[],S.length⟩,S++[.mem a.ai [] false,.mem b.ai [] false])else some (.ret,⟨[(4,.bool false)],[],S.length⟩,S++[.mem a.ai [] false,.mem b.ai [] false]):=by
 intro d;induction d with
 |zero=>
  intro i hi;rw[aj,ak ie.eq_1];have h3:(a.aU).drop i=[]:=dV (by omega);have h4:(b.aU).drop i=[]:=dV (by omega);have h5:¬i<n:=by omega
  simp[h3,h4,h5,qP,hl]
 |succ d ih=>
  intro i hi;have h3:i<n:=by omega
  rw[aj,ak ie.eq_1];obtain⟨x,hx,kM⟩:=aE (l:=a.aU) (i:=i) (by omega);obtain⟨y,hy,gg⟩:=aE (l:=b.aU) (i:=i) (by omega);rw[aJ hx,aJ hy];have hn:=ih (i+1) (by omega);have hw:=aV (i:=i) (by omega);simp at hn hw;cases he:((same:bq->bq->Bool)) x y
  ·(try simp at he)
   simp[h3,kM,gg,he,qP,hl,hm]
  ·(try simp at he)
   simp[h3,kM,gg,he,qP,hl,hm];rw[ae ie.eq_1];simp[hw,hn]
theorem HE(a b:aX)(S:St)(n:Nat)(hl:(a.ids).length=n)(hm:(b.ids).length=n)(hb:n<9223372036854775808):∀d i,i+d=n->
 DC ax nk (.loop ig) ⟨[(2,.ptr S.length 0),(3,.ptr (S.length+1) 0),(6,.int .i64 (i:Nat))],[],S.length⟩ (S++[.mem a.ai [] false,.mem b.ai [] false])=if qP (same:Int->Int->Bool) ((a.ids).drop i) ((b.ids).drop i)=true then some (.exit 2,⟨[(2,.ptr S.length 0),(3,.ptr (S.length+1) 0)],[],S.length⟩,S++[.mem a.ai [] false,.mem b.ai [] false])else some (.ret,⟨[(4,.bool false)],[],S.length⟩,S++[.mem a.ai [] false,.mem b.ai [] false]):=by
 intro d;induction d with
 |zero=>
  intro i hi;rw[aj,ak ig.eq_1];have h3:(a.ids).drop i=[]:=dV (by omega);have h4:(b.ids).drop i=[]:=dV (by omega);have h5:¬i<n:=by omega
  simp[h3,h4,h5,qP,hl]
 |succ d ih=>
  intro i hi;have h3:i<n:=by omega
  rw[aj,ak ig.eq_1];obtain⟨x,hx,kM⟩:=aE (l:=a.ids) (i:=i) (by omega);obtain⟨y,hy,gg⟩:=aE (l:=b.ids) (i:=i) (by omega);rw[aJ hx,aJ hy];have hn:=ih (i+1) (by omega);have hw:=aV (i:=i) (by omega);simp at hn hw;cases he:((same:Int->Int->Bool)) x y
  ·(try simp at he)
   simp[h3,kM,gg,he,qP,hl,hm]
  ·(try simp at he)
   simp[h3,kM,gg,he,qP,hl,hm];rw[ae ig.eq_1];simp[hw,hn]
theorem HF(a b:aX)(hF:∀x∈a.parts,∀y∈b.parts,∀S,DF ax nk 55 [.agg x.ai,.agg y.ai] S=some (.bool (same x y),S))(S:St)(n:Nat)(hl:(a.parts).length=n)(hm:(b.parts).length=n)(hb:n<9223372036854775808):∀d i,i+d=n->
 DC ax nk (.loop ij) ⟨[(2,.ptr S.length 0),(3,.ptr (S.length+1) 0),(7,.int .i64 (i:Nat))],[],S.length⟩ (S++[.mem a.ai [] false,.mem b.ai [] false])=if qP (same:aX->aX->Bool) ((a.parts).drop i) ((b.parts).drop i)=true then some (.exit 4,⟨[],[],S.length⟩,S++[.mem a.ai [] false,.mem b.ai [] false])else some (.ret,⟨[(4,.bool false)],[],S.length⟩,S++[.mem a.ai [] false,.mem b.ai [] false]):=by
 intro d;induction d with
 |zero=>
  intro i hi;rw[aj,ak ij.eq_1];have h3:(a.parts).drop i=[]:=dV (by omega);have h4:(b.parts).drop i=[]:=dV (by omega);have h5:¬i<n:=by omega
  simp[h3,h4,h5,qP,hl]
 |succ d ih=>
  intro i hi;have h3:i<n:=by omega
  rw[aj,ak ij.eq_1];obtain⟨x,hx,kM⟩:=aE (l:=a.parts) (i:=i) (by omega);obtain⟨y,hy,gg⟩:=aE (l:=b.parts) (i:=i) (by omega);rw[aJ hx,aJ hy];have hn:=ih (i+1) (by omega);have hw:=aV (i:=i) (by omega);have hf:=hF x (eT hx) y (eT hy);simp at hn hw;cases he:((same:aX->aX->Bool)) x y
  ·(try simp at he)
   simp[h3,kM,gg,he,qP,bF,hl,hm,hf]
  ·(try simp at he)
   simp[h3,kM,gg,he,qP,bF,hl,hm,hf];rw[ae ij.eq_1];simp[hw,hn]
theorem fP(a:aX):∀(b:aX),a.Small->b.Small->∀S,DF ax nk 55 [.agg a.ai,.agg b.ai] S=some (.bool (same a b),S):=by
 induction a using aX.ind with
 |h a ih=>
  intro b ha hb S;obtain⟨_,a1,a2,a3,a4⟩:=ha;obtain⟨_,b1,b2,b3,b4⟩:=hb;rw[FY,ak qZ.eq_1,aX.jr];by_cases c0:a.kind=b.kind;rotate_left;·simp[eW,c0]
  by_cases c1:a.n=b.n;rotate_left;·simp[eW,c0,c1]
  by_cases c2:a.s=b.s;rotate_left;·simp[eW,c0,c1,c2]
  by_cases c3:b.aU.length=a.aU.length;rotate_left
  ·have c3':¬a.aU.length=b.aU.length:=fun e=>c3 e.symm
   simp[eW,c0,c1,c2,c3',tR c3]
  by_cases c4:b.ids.length=a.ids.length;rotate_left
  ·have c4':¬a.ids.length=b.ids.length:=fun e=>c4 e.symm
   simp[eW,c0,c1,c2,c3,c4',tR c4]
  by_cases c5:b.parts.length=a.parts.length;rotate_left
  ·have c5':¬a.parts.length=b.parts.length:=fun e=>c5 e.symm
   simp[eW,c0,c1,c2,c3,c4,c5',tR c5]
  have h1:=HD a b S a.aU.length rfl c3 a1 a.aU.length 0 (by omega);have h2:=HE a b S a.ids.length rfl c4 a2 a.ids.length 0 (by omega);have h3:=HF a b (fun x hx y hy S=>ih x hx y (a4 x hx) (b4 y hy) S) S a.parts.length rfl c5 a3 a.parts.length 0 (by omega);simp[CV]at h1 h2 h3;simp[eW,c0,c1,c2,c3,c4,c5];rw[ae ie.eq_1];simp[h1];cases e0:same a.aU b.aU;·simp
  simp;rw[ae ig.eq_1];simp[h2];cases e1:same a.ids b.ids;·simp
  simp;rw[ae ij.eq_1];simp[h3];cases e2:same a.parts b.parts<;>simp
theorem HG(a b:bn)(hpx:∀x∈a.aO,∀y∈b.aO,∀S,DF ax nk 55 [.agg x.x.ai,.agg y.x.ai] S=some (.bool (same x.x y.x),S))(hpy:∀x∈a.aO,∀y∈b.aO,∀S,DF ax nk 55 [.agg x.y.ai,.agg y.y.ai] S=some (.bool (same x.y y.y),S))(S:St)(n:Nat)(hl:(a.aO).length=n)(hm:(b.aO).length=n)(hb:n<9223372036854775808):∀d i,i+d=n->
 DC ax nk (.loop ik) ⟨[(2,.ptr S.length 0),(3,.ptr (S.length+1) 0),(5,.int .i64 (i:Nat))],[],S.length⟩ (S++[.mem a.ai [] false,.mem b.ai [] false])=if qP (same:dQ->dQ->Bool) ((a.aO).drop i) ((b.aO).drop i)=true then some (.exit 0,⟨[(2,.ptr S.length 0),(3,.ptr (S.length+1) 0)],[],S.length⟩,S++[.mem a.ai [] false,.mem b.ai [] false])else some (.ret,⟨[(4,.bool false)],[],S.length⟩,S++[.mem a.ai [] false,.mem b.ai [] false]):=by
 intro d;induction d with
 |zero=>
  intro i hi;rw[aj,ak ik.eq_1];have h3:(a.aO).drop i=[]:=dV (by omega);have h4:(b.aO).drop i=[]:=dV (by omega);have h5:¬i<n:=by omega
  simp[jt,h3,h4,h5,qP,hl]
 |succ d ih=>
  intro i hi;have h3:i<n:=by omega
  rw[aj,ak ik.eq_1];obtain⟨x,hx,kM⟩:=aE (l:=a.aO) (i:=i) (by omega);obtain⟨y,hy,gg⟩:=aE (l:=b.aO) (i:=i) (by omega);rw[aJ hx,aJ hy];have hn:=ih (i+1) (by omega);have hw:=aV (i:=i) (by omega);have hfx:=hpx x (eT hx) y (eT hy);have hfy:=hpy x (eT hx) y (eT hy);simp at hn hw;cases he:((same:dQ->dQ->Bool)) x y
  ·have LI:=he
   rw[dQ.jr]at LI;cases k1:same x.x y.x;·simp[jt,k1,h3,kM,gg,he,qP,bF,hl,hm,hfx]
   cases k2:same x.y y.y;·simp[jt,k1,k2,h3,kM,gg,he,qP,bF,hl,hm,hfx,hfy]
   simp[k1,k2]at LI
  ·have LI:=he
   rw[dQ.jr]at LI;simp only[dk]at LI;simp[jt,LI.1,LI.2,h3,kM,gg,he,qP,bF,hl,hm,hfx,hfy];rw[ae ik.eq_1];simp[hw,hn]
theorem HH(a b:bn)(hF:∀x∈a.bf,∀y∈b.bf,∀S,DF ax nk 22 [.agg x.ai,.agg y.ai] S=some (.bool (same x y),S))(S:St)(n:Nat)(hl:(a.bf).length=n)(hm:(b.bf).length=n)(hb:n<9223372036854775808):∀d i,i+d=n->
 DC ax nk (.loop im) ⟨[(2,.ptr S.length 0),(3,.ptr (S.length+1) 0),(6,.int .i64 (i:Nat))],[],S.length⟩ (S++[.mem a.ai [] false,.mem b.ai [] false])=if qP (same:bn->bn->Bool) ((a.bf).drop i) ((b.bf).drop i)=true then some (.exit 2,⟨[],[],S.length⟩,S++[.mem a.ai [] false,.mem b.ai [] false])else some (.ret,⟨[(4,.bool false)],[],S.length⟩,S++[.mem a.ai [] false,.mem b.ai [] false]):=by
 intro d;induction d with
 |zero=>
  intro i hi;rw[aj,ak im.eq_1];have h3:(a.bf).drop i=[]:=dV (by omega);have h4:(b.bf).drop i=[]:=dV (by omega);have h5:¬i<n:=by omega
  simp[h3,h4,h5,qP,hl]
 |succ d ih=>
  intro i hi;have h3:i<n:=by omega
  rw[aj,ak im.eq_1];obtain⟨x,hx,kM⟩:=aE (l:=a.bf) (i:=i) (by omega);obtain⟨y,hy,gg⟩:=aE (l:=b.bf) (i:=i) (by omega);rw[aJ hx,aJ hy];have hn:=ih (i+1) (by omega);have hw:=aV (i:=i) (by omega);have hf:=hF x (eT hx) y (eT hy);simp at hn hw;cases he:((same:bn->bn->Bool)) x y
  ·(try simp at he)
   simp[h3,kM,gg,he,qP,bF,hl,hm,hf]
  ·(try simp at he)
   simp[h3,kM,gg,he,qP,bF,hl,hm,hf];rw[ae im.eq_1];simp[hw,hn]
theorem yC(a:bn):∀(b:bn),a.Small->b.Small->∀S,DF ax nk 22 [.agg a.ai,.agg b.ai] S=some (.bool (same a b),S):=by
 induction a using bn.ind with
 |h a ih=>
  intro b ha hb S;obtain⟨_,a1,a2,a3,a4,a5,a6,a7⟩:=ha;obtain⟨_,b1,b2,b3,b4,b5,b6,b7⟩:=hb;rw[FZ,ak q9.eq_1,bn.jr];have ht:=yB a.type b.type a1 b1;have hx:=fP a.base b.base a2 b2;have hy:=fP a.back b.back a3 b3;by_cases c0:a.kind=b.kind;rotate_left;·simp[dx,c0]
  by_cases c1:a.a=b.a;rotate_left;·simp[dx,c0,c1]
  by_cases c2:a.b=b.b;rotate_left;·simp[dx,c0,c1,c2]
  cases c3:same a.type b.type;·simp[dx,c0,c1,c2,c3,ht,bF]
  cases c4:same a.base b.base;·simp[dx,c0,c1,c2,c3,c4,ht,hx,bF]
  cases c5:same a.back b.back;·simp[dx,c0,c1,c2,c3,c4,c5,ht,hx,hy,bF]
  by_cases c6:b.aO.length=a.aO.length;rotate_left
  ·have c6':¬a.aO.length=b.aO.length:=fun e=>c6 e.symm
   simp[dx,c0,c1,c2,c3,c4,c5,ht,hx,hy,bF,c6',tR c6]
  by_cases c7:b.bf.length=a.bf.length;rotate_left
  ·have c7':¬a.bf.length=b.bf.length:=fun e=>c7 e.symm
   simp[dx,c0,c1,c2,c3,c4,c5,c6,ht,hx,hy,bF,c7',tR c7]
  have h1:=HG a b (fun x hx y hy S=>fP x.x y.x (a6 x hx).1 (b6 y hy).1 S) (fun x hx y hy S=>fP x.y y.y (a6 x hx).2 (b6 y hy).2 S) S a.aO.length rfl c6 a4 a.aO.length 0 (by omega);have h2:=HH a b (fun x hx y hy S=>ih x hx y (a7 x hx) (b7 y hy) S) S a.bf.length rfl c7 a5 a.bf.length 0 (by omega);simp[CV]at h1 h2;simp[dx,c0,c1,c2,c3,c4,c5,c6,c7,ht,hx,hy,bF];rw[ae ik.eq_1];simp[h1];cases e0:same a.aO b.aO;·simp
  simp;rw[ae im.eq_1];simp[h2];cases e1:same a.bf b.bf<;>simp
theorem yD(a b:ph)(ha:a.Small)(hb:b.Small)(S:St):DF ax nk 24 [.agg a.ai,.agg b.ai] S=some (.bool (same a b),S):=by
 rw[F1,ak q_.eq_1,ph.jr];have hp:=J2 a.path b.path ha.path;have hv:=fP a.value b.value ha.value hb.value;by_cases c0:a.kind=b.kind;rotate_left;·simp[iq,c0]
 by_cases c1:a.id=b.id;rotate_left;·simp[iq,c0,c1]
 by_cases c2:a.after=b.after;rotate_left;·simp[iq,c0,c1,c2]
 cases c3:same a.path b.path;·simp[iq,c0,c1,c2,c3,hp]
 simp[iq,c0,c1,c2,c3,hp,hv]
theorem J3(a b:aaf)(A:a.Ok)(B:b.Ok)(S:St)(n:Nat)(hl:(a.az).length=n)(hm:(b.az).length=n)(hb:n<9223372036854775808):∀d i,i+d=n->
 DC ax nk (.loop iu) ⟨[(2,.ptr S.length 0),(3,.ptr (S.length+1) 0),(5,.int .i64 (i:Nat))],[],S.length⟩ (S++[.mem a.ai [] false,.mem b.ai [] false])=if qP (same:List UInt8->List UInt8->Bool) ((a.az).drop i) ((b.az).drop i)=true then some (.exit 0,⟨[(2,.ptr S.length 0),(3,.ptr (S.length+1) 0)],[],S.length⟩,S++[.mem a.ai [] false,.mem b.ai [] false])else some (.ret,⟨[(4,.bool false)],[],S.length⟩,S++[.mem a.ai [] false,.mem b.ai [] false]):=by
 intro d;induction d with
 |zero=>
  intro i hi;rw[aj,ak iu.eq_1];have h3:(a.az).drop i=[]:=dV (by omega);have h4:(b.az).drop i=[]:=dV (by omega);have h5:¬i<n:=by omega
  simp[h3,h4,h5,qP,hl,A]
 |succ d ih=>
  intro i hi;have h3:i<n:=by omega
  rw[aj,ak iu.eq_1];obtain⟨x,hx,kM⟩:=aE (l:=a.az) (i:=i) (by omega);obtain⟨y,hy,gg⟩:=aE (l:=b.az) (i:=i) (by omega);rw[aJ hx,aJ hy];have hn:=ih (i+1) (by omega);have hw:=aV (i:=i) (by omega);have awX:=A.az x (eT hx);have atz:=B.az y (eT hy);simp at hn hw;cases he:((same:List UInt8->List UInt8->Bool)) x y
  ·(try simp at he)
   simp[h3,kM,gg,he,qP,hl,hm,A,B,awX,atz]
  ·(try simp at he)
   simp[h3,kM,gg,he,qP,hl,hm,A,B,atz];rw[ae iu.eq_1];simp[hw,hn]
theorem J4(a b:aaf)(ha:a.Small)(hb:b.Small)(S:St):DF ax nk 13 [.agg a.ai,.agg b.ai] S=some (.bool (same a b),S):=by
 rw[F2,ak re.eq_1,aaf.jr];have A:=ha.toOk;have B:=hb.toOk;have A1:=A.aP;have B1:=B.aP;have A2:=A.key;have B2:=B.key;have A3:=A.sig;have B3:=B.sig;have ho:=yD a.op b.op ha.op hb.op;have hl:=yC a.lens b.lens ha.lens hb.lens;by_cases k:b.az.length=a.az.length;rotate_left
 ·have k':¬a.az.length=b.az.length:=fun e=>k e.symm
  simp[oE,A,B,k',tR k]
 have h1:=J3 a b A B S a.az.length rfl k ha.aiH a.az.length 0 (by omega);simp only[CV]at h1;simp at h1;simp[oE,A,B,k];rw[ae iu.eq_1];simp[h1];cases c9:same a.az b.az;·simp
 simp;by_cases c0:a.kind=b.kind;rotate_left;·simp[c0]
 by_cases c1:a.aP=b.aP;rotate_left;·simp[c0,c1,A,B,A1,B1]
 by_cases c2:a.key=b.key;rotate_left;·simp[c0,c1,c2,A,B,B1,A2,B2]
 by_cases c3:a.sig=b.sig;rotate_left;·simp[c0,c1,c2,c3,A,B,B1,B2,A3,B3]
 cases c4:same a.op b.op;·simp[c0,c1,c2,c3,c4,A,B,B1,B2,B3,ho]
 simp[c0,c1,c2,c3,c4,A,B,B1,B2,B3,ho,hl]
structure dK.Wf(s:dK):Prop where
 name:s.name.length<9223372036854775808
 id0:0<=s.id
 id1:s.id<18446744073709551616
structure ph.Wf(o:ph):Prop where
 k0: -9223372036854775808<=o.kind
 k1:o.kind<9223372036854775808
 abt:o.path.length<9223372036854775808
 path:∀s∈o.path,s.Wf
 id0:0<=o.id
 id1:o.id<18446744073709551616
 af0:0<=o.after
 af1:o.after<18446744073709551616
 value:o.value.Wf
theorem aX.Wf.small(v:aX):v.Wf->v.Small:=by
 induction v using aX.ind with
 |h v ih=>intro hv;exact .mk v hv.one.aU hv.one.ids hv.one.parts fun p hp=>ih p hp (hv.all p hp)
theorem bj.Wf.small(v:bj):v.Wf->v.Small:=by
 induction v using bj.ind with
 |h v ih=>intro hv;exact .mk v hv.one.ar hv.one.parts fun p hp=>ih p hp (hv.all p hp)
theorem hJ:norm (.agg ab)=.agg oc.ai:=by rw[aX.fA];rfl
theorem hU(S:St):bN S (.agg ab)=some (.agg ab):=rfl
theorem hY(S:St):cg S (.agg ab)=S:=rfl
theorem d_(S S':St):bB S S' (.agg ab)=S':=rfl
theorem mF:norm (.agg [.int .i64 0,.ah,.ah])=.agg (bj.mk 0 [] []).ai:=by rw[bj.fA];rfl
theorem mG(S:St):bN S (.agg [.int .i64 0,.ah,.ah])=some (.agg [.int .i64 0,.ah,.ah]):=rfl
theorem mH(S:St):cg S (.agg [.int .i64 0,.ah,.ah])=S:=rfl
theorem jh(S S':St):bB S S' (.agg [.int .i64 0,.ah,.ah])=S':=rfl
theorem gH:oc.Small:=.mk oc (by decide) (by decide) (by decide) (by intro p hp;cases hp)
theorem lW(v:aX):same v oc=isZero v:=by rw[lQ,mR,AM]
theorem Qv(s:dK)(hs:s.Wf)(S:St):DF ax nk 134 [.agg s.ai] S=some (.bool (rZ s),S):=by
 rw[Wi,ak IQ.eq_1];have h:=kj s.name hs.name (S++[.mem s.ai [] false]);have e0:s.ai[0]? =some (.str s.name):=rfl;have e1:s.ai[1]? =some (.int .u64 s.id):=rfl;have el:s.ai.length=2:=rfl;unfold rZ;by_cases c1:s.name=[];·simp[c1]
 ·by_cases c2:s.id=0
  ·simp[c1,c2,h]
  ·simp[c1,c2]
theorem UE(s:dK)(hs:s.Wf)(S:St):DF ax nk 133 [.agg s.ai] S=some (.bool (!rZ s),S):=by rw[Pl,ak An.eq_1];have h:=Qv s hs (S++[.mem s.ai [] false]);simp[h,bF]
theorem NQ(p:List dK)(hl:p.length<9223372036854775808)(hs:∀s∈p,s.Wf)(S:St):DF ax nk 84 [eD p] S=some (.bool (zf p),S):=by
 rw[Uw,ak Ev.eq_1];have h:=vC 133 rfl rfl (fun s=> !rZ s) p hl S fun x hx=>UE x (hs x hx) S;have e:(!p.any fun s=> !rZ s)=p.all rZ:=by rw[ady];simp
 unfold zf;by_cases c:p.length<=8
 ·have c':((p.length:Int)<=8)=True:=eq_true (by omega)
  simp[h,c,c',e,bF]
 ·have c':((p.length:Int)<=8)=False:=eq_false (by omega)
  simp[c,c']
theorem aji(s:dK):rZ s=((dq s.name&&decide (s.id=0))||(decide (s.name=[])&& !decide (s.id=0))):=by
 unfold rZ;by_cases c1:s.name=[]
 ·have:dq s.name=false:=by rw[c1];rfl
  simp[c1,dq]
 ·by_cases c2:s.id=0<;>simp[c1,c2]
theorem Jj(p:List dK)(hl:p.length<9223372036854775808)(hs:∀s∈p,s.Wf)(S:St):DF ax nk 52 [eD p] S=some (.bool (zf p),S):=by
 rw[EP,ak qa.eq_1];have key:=OY p rZ (fun i=>DC ax nk (.loop eG) ⟨[(0,eD p),(3,.int .i64 (i:Nat))],[],S.length⟩ S) (some (.exit 0,⟨[(0,eD p)],[],S.length⟩,S)) (some (.ret,⟨[(2,.bool false)],[],S.length⟩,S)) ?_ ?_
 ·unfold zf
  have c:decide ((p.length:Int)<=8)=decide (p.length<=8):=by rw[lQ];simp;omega
  cases hx:p.all rZ
  ·rw[hx]at key
   simp at key;simp;rw[ae eG.eq_1];simp[key]
  ·rw[hx]at key
   simp at key;simp;rw[ae eG.eq_1];simp[key,c]
 ·intro i x hx
  have hi:=(fI.1 hx).1;have kM:∀h:i<p.length,p[i]=x:=fun h=>(fI.1 hx).2;have hw:=aV (i:=i) (by omega);simp at hw;have hn:=ji x.name (hs x (eT hx)).name S;have e0:x.ai[0]? =some (.str x.name):=rfl;have e1:x.ai[1]? =some (.int .u64 x.id):=rfl;rw[aj,ak eG.eq_1,aji];cases hb:dq x.name
  ·rw[hb]at hn
   by_cases c1:x.name=[]
   ·rw[c1]at hn
    by_cases c2:x.id=0;·simp[gS,gU,hi,kM,hn,c1,c2,bF]
    ·simp[gS,gU,hi,kM,hn,c1,c2,bF]
     rw[ae eG.eq_1];simp[hw]
   ·have c3:x.name.isEmpty=false:=by simpa using c1
    simp[gS,gU,hi,kM,hn,c1,c3,bF]
  ·rw[hb]at hn
   have c1:x.name≠[]:=ajj hb;have c3:x.name.isEmpty=false:=by simpa using c1
   by_cases c2:x.id=0
   ·simp[gS,gU,hi,kM,hn,c1,c2,c3,bF]
    rw[ae eG.eq_1];simp[hw]
   ·simp[gS,gU,hi,kM,hn,c1,c2,c3,bF]
 ·rw[aj,ak eG.eq_1]
  simp
theorem TL(o:ph)(ho:o.Wf)(S:St):DF ax nk 42 [.agg o.ai] S=some (.bool (Oe o),S):=by
 have h1:=NQ o.path ho.abt ho.path (S++[.mem o.ai [] false]);have h2:=eZ o.value oc (aX.Wf.small _ ho.value) gH (S++[.mem o.ai [] false]);have h3:=vM o.value ho.value (S++[.mem o.ai [] false]);rw[lW]at h2;rw[Zp,ak L9.eq_1];unfold Oe;cases hp:zf o.path
 ·rw[hp]at h1
  simp[h1,bF]
 rw[hp]at h1;by_cases k1:o.kind=1;·by_cases c1:o.id=0<;>by_cases c2:o.after=0<;>simp[Nl,h1,h2,h3,k1,c1,c2,bF,dr,hJ,hU,hY,d_]
 by_cases k2:o.kind=2;·by_cases c1:o.id=0<;>rcases YI (o.id=o.after)with c2|c2<;>simp[Nm,h1,h2,h3,k2,c1,c2,bF,dr,hJ,hU,hY,d_]
 by_cases k3:o.kind=3;·by_cases c1:o.id=0<;>by_cases c2:o.after=0<;>simp[h1,h2,k3,c1,c2,bF,dr,hJ,hU,hY,d_]
 by_cases k4:o.kind=4;·by_cases c1:o.id=0<;>rcases YI (o.id=o.after)with c2|c2<;>simp[Nn,h1,h2,k4,c1,c2,bF,dr,hJ,hU,hY,d_]
 simp[h1,h2,k1,k2,k3,k4,bF,dr,hJ,hU,hY,d_]
theorem u7(k:Int)(S:St):DF ax nk 53 [.int .i64 k] S=some (.bool (decide (k=1)||decide (k=2)),S):=by
 rw[Dd,ak oG.eq_1];by_cases c:k=1;·simp[c]
 ·simp[c]
theorem HL(o:ph)(ho:o.Wf)(hd:o.value.depth<1000000)(S:St):DF ax nk 21 [.agg o.ai] S=some (.bool (Oe o),S):=by
 have h1:=Jj o.path ho.abt ho.path (S++[.mem o.ai [] false]);have h2:=fP o.value oc (aX.Wf.small _ ho.value) gH (S++[.mem o.ai [] false]);have h3:=pU o.value ho.value hd (S++[.mem o.ai [] false]);have h4:=u7 o.kind (S++[.mem o.ai [] false]);rw[lW]at h2;rw[EL,ak pZ.eq_1];unfold Oe;by_cases k0:o.kind<1
 ·have n1:¬o.kind=1:=by omega
  have n2:¬o.kind=2:=by omega
  have n3:¬o.kind=3:=by omega
  have n4:¬o.kind=4:=by omega
  simp[cE,k0,n1,n2,n3,n4]
 by_cases k5:4<o.kind
 ·have n1:¬o.kind=1:=by omega
  have n2:¬o.kind=2:=by omega
  have n3:¬o.kind=3:=by omega
  have n4:¬o.kind=4:=by omega
  simp[cE,k0,k5,n1,n2,n3,n4]
 cases hp:zf o.path
 ·rw[hp]at h1
  simp[cE,k0,k5,h1,bF]
 rw[hp]at h1;by_cases k1:o.kind=1
 ·rw[k1]at h4
  simp at h4;cases hr:o.value.aR 5
  ·rw[hr]at h3
   simp[cE,dI,h1,h3,h4,k1,bF]
  ·rw[hr]at h3
   by_cases c1:o.id=0<;>by_cases c2:o.after=0<;>simp[cE,dI,h1,h3,h4,k1,c1,c2,bF]
 by_cases k2:o.kind=2
 ·rw[k2]at h4
  simp at h4;cases hr:o.value.aR 5
  ·rw[hr]at h3
   simp[cE,dI,h1,h3,h4,k2,bF]
  ·rw[hr]at h3
   have e:(o.after=o.id)=(o.id=o.after):=propext ⟨Eq.symm,Eq.symm⟩;by_cases c1:o.id=0<;>rcases YI (o.id=o.after)with c2|c2<;>simp[cE,dI,h1,h3,h4,k2,c1,c2,e,bF]
 by_cases k3:o.kind=3
 ·rw[k3]at h4
  simp at h4;cases hr:isZero o.value
  ·rw[hr]at h2
   simp[cE,dI,h1,h2,h4,k3,bF,dr,hJ,hU,hY,d_]
  ·rw[hr]at h2
   by_cases c1:o.id=0<;>by_cases c2:o.after=0<;>simp[cE,dI,h1,h2,h4,k3,c1,c2,bF,dr,hJ,hU,hY,d_]
 have k4:o.kind=4:=by omega
 rw[k4]at h4;simp at h4;cases hr:isZero o.value
 ·rw[hr]at h2
  simp[cE,dI,h1,h2,h4,k4,bF,dr,hJ,hU,hY,d_]
 ·rw[hr]at h2
  have e:(o.after=o.id)=(o.id=o.after):=propext ⟨Eq.symm,Eq.symm⟩;by_cases c1:o.id=0<;>rcases YI (o.id=o.after)with c2|c2<;>simp[cE,dI,h1,h2,h4,k4,c1,c2,e,bF,dr,hJ,hU,hY,d_]
structure bn.Of(l:bn):Prop where
 k0: -9223372036854775808<=l.kind
 k1:l.kind<9223372036854775808
 a:l.a.length<9223372036854775808
 b:l.b.length<9223372036854775808
 type:l.type.Wf
 base:l.base.Wf
 back:l.back.Wf
 aO:l.aO.length<9223372036854775808
 pair:∀p∈l.aO,p.x.Wf/\p.y.Wf
 bf:l.bf.length<9223372036854775808
inductive bn.Wf:bn->Prop
 |mk (l:bn) (one:l.Of) (all:∀p∈l.bf,bn.Wf p):bn.Wf l
theorem bn.Wf.one{v:bn}(h:v.Wf):v.Of:=by cases h;assumption
theorem bn.Wf.all{v:bn}(h:v.Wf):∀p∈v.bf,bn.Wf p:=by cases h;assumption
theorem bn.Wf.small(l:bn):l.Wf->l.Small:=by
 induction l using bn.ind with
 |h l ih=>intro h;exact .mk l h.one.type.small h.one.base.small h.one.back.small h.one.aO h.one.bf (fun p hp=>⟨(h.one.pair p hp).1.small,(h.one.pair p hp).2.small⟩) fun x hx=>ih x hx (h.all x hx)
def uD(k:Int):Bool:=decide (k=1)||(decide (k=4)||decide (k=5))
def sd(k:Int):Bool:=decide (k=2)||(decide (k=3)||decide (k=8))
def uQ(k:Int):Bool:=decide (k=8)
def xw(k:Int):Bool:=decide (k=9)||decide (k=10)
def BU(k:Int):Bool:=decide (1<=k)&&decide (k<=10)
abbrev rJ(b t y i:Bool):List AV:=[.bool b,.bool t,.bool y,.bool i]
theorem wu(k:Int)(S:St):DF ax nk 95 [.int .i64 k] S=some (.cT [.agg (rJ (uD k) (sd k) (uQ k) (xw k)),.bool (BU k)],S):=by
 have pk:∀b t y i,fC (.agg 4) [.bool b,.bool t,.bool y,.bool i] 0=some (.agg [.bool b,.bool t,.bool y,.bool i]):=fun _ _ _ _=>rfl;rw[VQ,ak H9.eq_1];by_cases k1:k=1;·simp[k1,uD,sd,uQ,xw,BU,dr,aL,aB,aaq,AV.cells,cC,ay,bA,aw,bD,cY,a9,bu,aS,ck,pk]
 by_cases k4:k=4;·simp[k4,uD,sd,uQ,xw,BU,dr,aL,aB,aaq,AV.cells,cC,ay,bA,aw,bD,cY,a9,bu,aS,ck,pk]
 by_cases k5:k=5;·simp[k5,uD,sd,uQ,xw,BU,dr,aL,aB,aaq,AV.cells,cC,ay,bA,aw,bD,cY,a9,bu,aS,ck,pk]
 by_cases k2:k=2;·simp[k2,uD,sd,uQ,xw,BU,dr,aL,aB,aaq,AV.cells,cC,ay,bA,aw,bD,cY,a9,bu,aS,ck,pk]
 by_cases k3:k=3;·simp[k3,uD,sd,uQ,xw,BU,dr,aL,aB,aaq,AV.cells,cC,ay,bA,aw,bD,cY,a9,bu,aS,ck,pk]
 by_cases k6:k=6;·simp[k6,uD,sd,uQ,xw,BU,dr,aL,aB,aaq,AV.cells,cC,ay,bA,aw,bD,cY,a9,bu,aS,ck,pk]
 by_cases k7:k=7;·simp[k7,uD,sd,uQ,xw,BU,dr,aL,aB,aaq,AV.cells,cC,ay,bA,aw,bD,cY,a9,bu,aS,ck,pk]
 by_cases k8:k=8;·simp[k8,uD,sd,uQ,xw,BU,dr,aL,aB,aaq,AV.cells,cC,ay,bA,aw,bD,cY,a9,bu,aS,ck,pk]
 by_cases k9:k=9;·simp[k9,uD,sd,uQ,xw,BU,dr,aL,aB,aaq,AV.cells,cC,ay,bA,aw,bD,cY,a9,bu,aS,ck,pk]
 by_cases k10:k=10;·simp[k10,uD,sd,uQ,xw,BU,dr,aL,aB,aaq,AV.cells,cC,ay,bA,aw,bD,cY,a9,bu,aS,ck,pk]
 have G3:BU k=false:=by
  unfold BU;by_cases h:1<=k
  ·have:¬k<=10:=by omega
   simp[this]
  ·simp[h]
 simp[k1,k2,k3,k4,k5,k6,k7,k8,k9,k10,G3,uD,sd,uQ,xw,dr,aL,aB,aaq,AV.cells,cC,ay,bA,aw,bD,cY,a9,bu,aS,ck,pk]
theorem vK(v:aX)(hv:v.Wf)(S:St):DF ax nk 162 [.agg v.ai] S=some (.bool (iF v),S):=by
 rw[QV,ak BV.eq_1];have h:=vM v hv (S++[.mem v.ai [] false]);unfold iF;cases hr:v.aR 5
 ·rw[hr]at h
  simp[h]
 ·rw[hr]at h
  simp[h]
def Bp(b t y i:Bool)(l:bn):Bool:=(b||l.b.isEmpty)&&((t||(nI l.type&&isZero l.base))&&((y||(isZero l.back&&l.aO.isEmpty))&&(i||l.bf.isEmpty)))
theorem sB:(bj.mk 0 [] []).Small:=.mk _ (by decide) (by decide) (by intro p hp;cases hp)
theorem qC(s:bj):same s (bj.mk 0 [] [])=nI s:=by rw[lQ,mR,Qj]
theorem Ee(l:bn)(hl:l.Of)(S:St):DF ax nk 141 [.agg l.ai,.agg (rJ true false false false)] S=some (.bool (Bp true false false false l),S):=by
 have h1:=oq l.type (.mk 0 [] []) hl.type.small sB (S++[.mem l.ai [] false,.mem (rJ true false false false) [] false]);have h2:=eZ l.base oc hl.base.small gH (S++[.mem l.ai [] false,.mem (rJ true false false false) [] false]);have h3:=eZ l.back oc hl.back.small gH (S++[.mem l.ai [] false,.mem (rJ true false false false) [] false]);rw[qC]at h1;rw[lW]at h2 h3;have e2:decide (l.bf=[])=l.bf.isEmpty:=by cases l.bf<;>simp
 rw[rT,ak pR.eq_1];unfold Bp;cases hq:nI l.type
 ·rw[hq]at h1
  simp[cj,dr,mF,mG,mH,jh,h1]
 rw[hq]at h1;cases hz:isZero l.base
 ·rw[hz]at h2
  simp[cj,dr,hJ,hU,hY,d_,mF,mG,mH,jh,h1,h2]
 rw[hz]at h2;cases hr:isZero l.back
 ·rw[hr]at h3
  simp[cj,dr,hJ,hU,hY,d_,mF,mG,mH,jh,h1,h2,h3]
 rw[hr]at h3;by_cases hp:l.aO=[];rotate_left
 ·have ep:l.aO.isEmpty=false:=by simpa using hp
  simp[cj,dr,hJ,hU,hY,d_,mF,mG,mH,jh,h1,h2,h3,hp,ep]
 simp[cj,dr,hJ,hU,hY,d_,mF,mG,mH,jh,h1,h2,h3,e2,hp]
theorem Nd(l:bn)(hl:l.Of)(S:St):DF ax nk 141 [.agg l.ai,.agg (rJ false true false false)] S=some (.bool (Bp false true false false l),S):=by
 have h1:=oq l.type (.mk 0 [] []) hl.type.small sB (S++[.mem l.ai [] false,.mem (rJ false true false false) [] false]);have h2:=eZ l.base oc hl.base.small gH (S++[.mem l.ai [] false,.mem (rJ false true false false) [] false]);have h3:=eZ l.back oc hl.back.small gH (S++[.mem l.ai [] false,.mem (rJ false true false false) [] false]);rw[qC]at h1;rw[lW]at h2 h3;have e2:decide (l.bf=[])=l.bf.isEmpty:=by cases l.bf<;>simp
 rw[rT,ak pR.eq_1];unfold Bp;by_cases hb:l.b=[];rotate_left
 ·have eb:l.b.isEmpty=false:=by simpa using hb
  simp[cj,eb]
 cases hr:isZero l.back
 ·rw[hr]at h3
  simp[cj,dr,hJ,hU,hY,d_,h3,hb]
 rw[hr]at h3;by_cases hp:l.aO=[];rotate_left
 ·have ep:l.aO.isEmpty=false:=by simpa using hp
  simp[cj,dr,hJ,hU,hY,d_,h3,hb,hp,ep]
 simp[cj,dr,hJ,hU,hY,d_,h3,e2,hb,hp]
theorem Nf(l:bn)(hl:l.Of)(S:St):DF ax nk 141 [.agg l.ai,.agg (rJ false false false false)] S=some (.bool (Bp false false false false l),S):=by
 have h1:=oq l.type (.mk 0 [] []) hl.type.small sB (S++[.mem l.ai [] false,.mem (rJ false false false false) [] false]);have h2:=eZ l.base oc hl.base.small gH (S++[.mem l.ai [] false,.mem (rJ false false false false) [] false]);have h3:=eZ l.back oc hl.back.small gH (S++[.mem l.ai [] false,.mem (rJ false false false false) [] false]);rw[qC]at h1;rw[lW]at h2 h3;have e2:decide (l.bf=[])=l.bf.isEmpty:=by cases l.bf<;>simp
 rw[rT,ak pR.eq_1];unfold Bp;by_cases hb:l.b=[];rotate_left
 ·have eb:l.b.isEmpty=false:=by simpa using hb
  simp[cj,eb]
 cases hq:nI l.type
 ·rw[hq]at h1
  simp[cj,dr,mF,mG,mH,jh,h1,hb]
 rw[hq]at h1;cases hz:isZero l.base
 ·rw[hz]at h2
  simp[cj,dr,hJ,hU,hY,d_,mF,mG,mH,jh,h1,h2,hb]
 rw[hz]at h2;cases hr:isZero l.back
 ·rw[hr]at h3
  simp[cj,dr,hJ,hU,hY,d_,mF,mG,mH,jh,h1,h2,h3,hb]
 rw[hr]at h3;by_cases hp:l.aO=[];rotate_left
 ·have ep:l.aO.isEmpty=false:=by simpa using hp
  simp[cj,dr,hJ,hU,hY,d_,mF,mG,mH,jh,h1,h2,h3,hb,hp,ep]
 simp[cj,dr,hJ,hU,hY,d_,mF,mG,mH,jh,h1,h2,h3,e2,hb,hp]
theorem Y9(l:bn)(hl:l.Of)(S:St):DF ax nk 141 [.agg l.ai,.agg (rJ false true true false)] S=some (.bool (Bp false true true false l),S):=by
 have h1:=oq l.type (.mk 0 [] []) hl.type.small sB (S++[.mem l.ai [] false,.mem (rJ false true true false) [] false]);have h2:=eZ l.base oc hl.base.small gH (S++[.mem l.ai [] false,.mem (rJ false true true false) [] false]);have h3:=eZ l.back oc hl.back.small gH (S++[.mem l.ai [] false,.mem (rJ false true true false) [] false]);rw[qC]at h1;rw[lW]at h2 h3;have e2:decide (l.bf=[])=l.bf.isEmpty:=by cases l.bf<;>simp
 rw[rT,ak pR.eq_1];unfold Bp;by_cases hb:l.b=[];rotate_left
 ·have eb:l.b.isEmpty=false:=by simpa using hb
  simp[cj,eb]
 simp[cj,e2,hb]
theorem Ng(l:bn)(hl:l.Of)(S:St):DF ax nk 141 [.agg l.ai,.agg (rJ false false false true)] S=some (.bool (Bp false false false true l),S):=by
 have h1:=oq l.type (.mk 0 [] []) hl.type.small sB (S++[.mem l.ai [] false,.mem (rJ false false false true) [] false]);have h2:=eZ l.base oc hl.base.small gH (S++[.mem l.ai [] false,.mem (rJ false false false true) [] false]);have h3:=eZ l.back oc hl.back.small gH (S++[.mem l.ai [] false,.mem (rJ false false false true) [] false]);rw[qC]at h1;rw[lW]at h2 h3;have e2:decide (l.bf=[])=l.bf.isEmpty:=by cases l.bf<;>simp
 rw[rT,ak pR.eq_1];unfold Bp;by_cases hb:l.b=[];rotate_left
 ·have eb:l.b.isEmpty=false:=by simpa using hb
  simp[cj,eb]
 cases hq:nI l.type
 ·rw[hq]at h1
  simp[cj,dr,mF,mG,mH,jh,h1,hb]
 rw[hq]at h1;cases hz:isZero l.base
 ·rw[hz]at h2
  simp[cj,dr,hJ,hU,hY,d_,mF,mG,mH,jh,h1,h2,hb]
 rw[hz]at h2;cases hr:isZero l.back
 ·rw[hr]at h3
  simp[cj,dr,hJ,hU,hY,d_,mF,mG,mH,jh,h1,h2,h3,hb]
 rw[hr]at h3;by_cases hp:l.aO=[];rotate_left
 ·have ep:l.aO.isEmpty=false:=by simpa using hp
  simp[cj,dr,hJ,hU,hY,d_,mF,mG,mH,jh,h1,h2,h3,hb,hp,ep]
 simp[cj,dr,hJ,hU,hY,d_,mF,mG,mH,jh,h1,h2,h3,hb,hp]
theorem abM(l:bn)(hl:l.Of)(k:Int)(hk:BU k=true)(S:St):DF ax nk 141 [.agg l.ai,.agg (rJ (uD k) (sd k) (uQ k) (xw k))] S=some (.bool (Bp (uD k) (sd k) (uQ k) (xw k) l),S):=by
 unfold BU at hk;simp only[dk,decide_eq_true_eq]at hk;have hc:k=1\/k=2\/k=3\/k=4\/k=5\/k=6\/k=7\/k=8\/k=9\/k=10:=by omega
 rcases hc with k|k|k|k|k|k|k|k|k|k<;>subst k;·exact Ee l hl S
 ·exact Nd l hl S
 ·exact Nd l hl S
 ·exact Ee l hl S
 ·exact Ee l hl S
 ·exact Nf l hl S
 ·exact Nf l hl S
 ·exact Y9 l hl S
 ·exact Ng l hl S
 ·exact Ng l hl S
def OZ(l:bn):Bool:=ni l.base l.type&&(!decide (l.kind=8)||(decide (1<=l.type.kind)&&decide (l.type.kind<=4)))
theorem Y_(l:bn)(hl:l.Of)(S:St):DF ax nk 142 [.agg l.ai] S=some (.bool (OZ l),S):=by have h1:=BW l.base l.type hl.base hl.type (S++[.mem l.ai [] false]);have h2:=FA l.type (S++[.mem l.ai [] false]);rw[TW,ak Ef.eq_1];unfold OZ;cases hf:ni l.base l.type<;>rw[hf]at h1<;>by_cases k8:l.kind=8<;>simp[H_,h1,h2,k8]
def RZ(l:bn):Bool:=iF l.back&&(decide (l.aO.length<=8)&&l.aO.all (uP l.type))
theorem QW(l:bn)(hl:l.Of)(p:dQ)(hp:p.x.Wf/\p.y.Wf)(j:Nat)(S:St)(bt:List (Option Nat))(lk:Bool)(hS:S[j]? =some (.mem l.ai bt lk)):DF ax nk 175 [.agg p.ai,.ptr j 0] S=some (.bool (!uP l.type p),S):=by
 rw[va (ax:=ax) (f:=175) (k:=se) rfl (M1 rfl) S];unfold se;simp only[DY,JK];rw[ak FB.eq_1];have hj:=(fI.1 hS).1;have Od:∀b,aY (S++[b]) (.agg 3) (.ptr j 3)=some (.agg l.type.ai):=by intro b;rw[bd (cs:=l.ai) (aa:=bt) (l:=lk) (by rw[kP hj];exact hS)];simp
 have h1:=vK p.x hp.1 (S++[.mem p.ai [] false]);have h2:=BW p.y l.type hp.2 hl.type (S++[.mem p.ai [] false]);unfold uP;cases hx:iF p.x<;>rw[hx]at h1<;>simp[Bq,Od,h1,h2,bF]
theorem VR(l:bn)(hl:l.Of)(S:St):DF ax nk 143 [.agg l.ai] S=some (.bool (RZ l),S):=by
 have h1:=vK l.back hl.back (S++[.mem l.ai [] false]);have h2:=vm 175 rfl rfl S.length (fun p=> !uP l.type p) l.aO hl.aO (S++[.mem l.ai [] false]) fun p hp=>QW l hl p (hl.pair p hp) S.length _ [] false (by simp);have e:(!l.aO.any fun p=> !uP l.type p)=l.aO.all (uP l.type):=by rw[ady];simp
 rw[QX,ak BX.eq_1];unfold RZ;cases hx:iF l.back
 ·rw[hx]at h1
  simp[sj,h1]
 ·rw[hx]at h1
  by_cases c:l.aO.length<=8
  ·have c':((l.aO.length:Int)<=8)=True:=eq_true (by omega)
   simp[sj,h1,h2,c,c',e,bF]
  ·have c':((l.aO.length:Int)<=8)=False:=eq_false (by omega)
   simp[sj,h1,c,c']
def bn.ai4(d:Nat)(l:bn):Bool:=BU l.kind&&(dq l.a&&(Bp (uD l.kind) (sd l.kind) (uQ l.kind) (xw l.kind) l&&
 (if uD l.kind=true then dq l.b&& !decide (l.a=l.b)else if uQ l.kind=true then OZ l&&RZ l else if sd l.kind=true then OZ l else if xw l.kind=true then decide (l.bf.length=1)&&l.bf.all (bn.aR d)else true)))
theorem TX{v:aX}{s:bj}(h:ni v s=true):1<=s.kind:=by unfold ni at h;simp only[dk]at h;have:=(bj.fa h.1.2).kind;omega
theorem bn.alQ(d:Nat)(l:bn):bn.ai4 d l=l.aR (d+1):=by
 have hk:ni l.base l.type=true->decide (1<=l.type.kind)=true:=fun h=>by simpa using TX h
 have nX:l.bf=[]->l.bf.all (bn.aR d)=true:=fun h=>by rw[h];rfl
 have atS:l.bf.isEmpty=true->l.bf.all (bn.aR d)=true:=fun h=>nX (by simpa using h);have hab:decide (l.a=l.b)=decide (l.b=l.a):=by rw[lQ];simp;exact⟨Eq.symm,Eq.symm⟩
 rw[bn.aR];unfold bn.ai4 bn.jH Bp OZ RZ uD sd uQ xw BU;rw[hab];by_cases h1:1<=l.kind;rotate_left;·simp[h1]
 by_cases h10:l.kind<=10;rotate_left;·simp[h10]
 have hc:l.kind=1\/l.kind=2\/l.kind=3\/l.kind=4\/l.kind=5\/l.kind=6\/l.kind=7\/l.kind=8\/l.kind=9\/l.kind=10:=by omega
 cases hi:l.bf.isEmpty
 ·rcases hc with k|k|k|k|k|k|k|k|k|k<;>simp only[k]<;>simp<;>
   (try(cases dq l.a<;>simp))<;>(try(cases nI l.type<;>simp))<;>(try(cases isZero l.base<;>simp))<;>(try(cases isZero l.back<;>simp))<;>(try(cases l.aO.isEmpty<;>simp))<;>(try(cases l.b.isEmpty<;>simp))
 ·have ha:=atS hi
  rw[ha];cases hf:ni l.base l.type
  ·rcases hc with k|k|k|k|k|k|k|k|k|k<;>simp only[k]<;>simp<;>
    (try(cases dq l.a<;>simp))<;>(try(cases dq l.b<;>simp))<;>(try(cases nI l.type<;>simp))<;>(try(cases isZero l.base<;>simp))<;>(try(cases isZero l.back<;>simp))<;>(try(cases l.aO.isEmpty<;>simp))<;>(try(cases l.b.isEmpty<;>simp))
  ·have KS:=hk hf
   simp at KS;rcases hc with k|k|k|k|k|k|k|k|k|k<;>simp only[k]<;>simp[KS]<;>
    (try(cases dq l.a<;>simp))<;>(try(cases dq l.b<;>simp))<;>(try(cases nI l.type<;>simp))<;>(try(cases isZero l.base<;>simp))<;>(try(cases isZero l.back<;>simp))<;>(try(cases l.aO.isEmpty<;>simp))<;>(try(cases l.b.isEmpty<;>simp))
   all_goals(try(cases decide (l.type.kind<=4)<;>simp))<;>(try(cases iF l.back<;>simp))
theorem Za(d:Nat)(hd:d<1000000):∀(l:bn),l.Wf->∀S:St,DF ax nk 91 [.agg l.ai,.int .i64 d] S=some (.bool (l.aR d),S):=by
 induction d with
 |zero=>
  intro l hl S;have h0:=wu l.kind (S++[.mem l.ai [] false]);have sp:∀b t y i,aL [.bool false,.bool false,.bool false,.bool false] 0 (rJ b t y i)=rJ b t y i:=fun _ _ _ _=>rfl;have tr:∀b t y i o,aT [] (.cT [.agg (rJ b t y i),.bool o])=(.cT [.agg (rJ b t y i),.bool o],[]):=fun _ _ _ _ _=>rfl;rw[Ia,ak zA.eq_1];cases G3:BU l.kind<;>rw[G3]at h0<;>simp[gJ,h0,tr,sp,cK,bn.aR,bF]
 |succ d ih=>
  intro l hl S;have h0:=wu l.kind (S++[.mem l.ai [] false]);have h1:=kj l.a hl.one.a (S++[.mem l.ai [] false,.mem (rJ (uD l.kind) (sd l.kind) (uQ l.kind) (xw l.kind)) [] false]);have h2:=fun hk=>abM l hl.one l.kind hk (S++[.mem l.ai [] false,.mem (rJ (uD l.kind) (sd l.kind) (uQ l.kind) (xw l.kind)) [] false]);have h3:=kj l.b hl.one.b (S++[.mem l.ai [] false,.mem (rJ (uD l.kind) (sd l.kind) (uQ l.kind) (xw l.kind)) [] false]);have h4:=Y_ l hl.one (S++[.mem l.ai [] false,.mem (rJ (uD l.kind) (sd l.kind) (uQ l.kind) (xw l.kind)) [] false]);have h5:=VR l hl.one (S++[.mem l.ai [] false,.mem (rJ (uD l.kind) (sd l.kind) (uQ l.kind) (xw l.kind)) [] false]);have h6:∀x,l.bf=[x]->DF ax nk 91 [.agg x.ai,.int .i64 d] (S++[.mem l.ai [] false,.mem (rJ (uD l.kind) (sd l.kind) (uQ l.kind) (xw l.kind)) [] false])=some (.bool (x.aR d),S++[.mem l.ai [] false,.mem (rJ (uD l.kind) (sd l.kind) (uQ l.kind) (xw l.kind)) [] false]):=
   fun x hx=>ih (by omega) x (hl.all x (by rw[hx];simp)) _
  have sp:∀b t y i,aL [.bool false,.bool false,.bool false,.bool false] 0 (rJ b t y i)=rJ b t y i:=fun _ _ _ _=>rfl;have pk:∀b t y i,fC (.agg 4) (rJ b t y i) 0=some (.agg (rJ b t y i)):=fun _ _ _ _=>rfl;have tr:∀b t y i o,aT [] (.cT [.agg (rJ b t y i),.bool o])=(.cT [.agg (rJ b t y i),.bool o],[]):=fun _ _ _ _ _=>rfl;have hw:IntKind.wrap .i64 (((d+1:Nat):Int) -1)=d:=by rw[wrap_i64 _ (by omega) (by omega)];omega
  have hz:¬((d:Int)+1=0):=by omega
  rw[<-bn.alQ];unfold bn.ai4;rw[Ia,ak zA.eq_1];generalize hgo:BU l.kind=o at*;generalize uD l.kind=b at*;generalize sd l.kind=t at*;generalize uQ l.kind=y at*;generalize xw l.kind=i at*;simp at hw;cases o;·simp[gJ,h0,tr,sp,cK,bF]
  have h2:=h2 rfl;cases ha:dq l.a
  ·rw[ha]at h1
   simp[gJ,h0,h1,hz,tr,sp,cK,bF]
  rw[ha]at h1;cases hz0:Bp b t y i l
  ·rw[hz0]at h2
   simp[gJ,h0,h1,h2,hz,tr,sp,pk,cK,bF]
  rw[hz0]at h2;cases b
  ·cases y
   ·cases t
    ·cases i
     ·simp[gJ,h0,h1,h2,hz,tr,sp,pk,cK,bF]
     ·by_cases hn:l.bf.length=1
      ·obtain⟨x,hx⟩:=Ht.1 hn
       have h6:=h6 x hx;have ix:=D2 l.bf .i64 0;rw[hx]at ix;simp at ix;simp[gJ,Af,h0,h1,h2,h6,hz,hw,hx,ix,tr,sp,pk,cK,bF]
      ·have Cr:¬((l.bf.length:Int)=1):=by omega
       simp[gJ,Af,h0,h1,h2,hn,Cr,hz,tr,sp,pk,cK,bF]
    ·simp[gJ,h0,h1,h2,h4,hz,tr,sp,pk,cK,bF]
   ·cases ht:OZ l<;>rw[ht]at h4<;>simp[gJ,h0,h1,h2,h4,h5,hz,tr,sp,pk,cK,bF]
  ·cases hb:dq l.b<;>rw[hb]at h3<;>simp[gJ,h0,h1,h2,h3,hz,tr,sp,pk,cK,bF]
theorem M_(l:bn)(hl:l.Wf)(S:St):DF ax nk 44 [.agg l.ai] S=some (.bool (l.aR 5),S):=by rw[TY,ak Eg.eq_1];have h:=Za 5 (by decide) l hl;simp at h;simp[h]
section
mutual
def bn.depth:bn->Nat
 |.mk _ _ _ _ _ _ _ ps=>bn.iB 1 ps
def bn.iB:Nat->List bn->Nat
 |n,[]=>n
 |n,v::r=>bn.iB (if n<bn.depth v+1 then bn.depth v+1 else n) r
end
theorem bn.jL(v:bn):v.depth=bn.iB 1 v.bf:=by cases v;simp[bn.depth,bn.bf]
theorem bn.iP:∀(l:List bn)(n m:Nat),bn.iB n l<=m↔n<=m/\∀p∈l,p.depth+1<=m
 |[],n,m=>by simp[bn.iB]
 |v::r,n,m=>by
  rw[bn.iB,bn.iP r];simp only[yi,forall_eq_or_imp];constructor
  ·rintro⟨a,b⟩
   refine⟨?_, ?_,b⟩<;>(split at a<;>omega)
  ·rintro⟨a,c,b⟩
   refine⟨?_,b⟩;split<;>omega
mutual
def bn.cO:bn->Bool
 |.mk k a b t x y ps is=>(bn.mk k a b t x y ps is).jH&&bn.lX is
def bn.lX:List bn->Bool
 |[]=>true
 |v::r=>bn.cO v&&bn.lX r
end
theorem bn.pS:∀l:List bn,bn.lX l=l.all bn.cO
 |[]=>by simp[bn.lX]
 |v::r=>by simp[bn.lX,bn.pS r]
theorem bn.td(v:bn):v.cO=(v.jH&&v.bf.all bn.cO):=by cases v;simp[bn.cO,bn.bf,bn.pS]
theorem bn.CY:∀(d:Nat)(v:bn),v.aR d=(decide (v.depth<=d)&&v.cO):=by
 intro d;induction d with
 |zero=>
  intro v;have:¬v.depth<=0:=by rw[bn.jL,bn.iP];omega
  simp only[bn.aR];rw[show decide (v.depth<=0)=false by simpa using this];rfl
 |succ d ih=>
  intro v;rw[bn.aR,bn.td,lQ];simp only[dk,j7,decide_eq_true_eq,ih];rw[bn.jL,bn.iP];constructor
  ·rintro⟨a,b⟩
   exact⟨⟨by omega,fun p hp=>by have:=(b p hp).1;omega⟩,a,fun p hp=>(b p hp).2⟩
  ·rintro⟨⟨_,a⟩,b,c⟩
   exact⟨b,fun p hp=>⟨by have:=a p hp;omega,c p hp⟩⟩
theorem Ib(v:bn)(hl:v.bf.length<9223372036854775808)(B:Nat)(hB:B<1000000)(S:St)(hF:∀x∈v.bf,x.depth<B/\∀S,DF ax nk 57 [.agg x.ai] S=some (.int .i64 (x.depth:Nat),S))(nb:Nat):∀d i(n:Nat),i+d=v.bf.length->
 DC ax nk (.loop fE) ⟨[(1,.ptr S.length 0),(3,.int .i64 n),(4,.int .i64 (i:Nat))],[],nb⟩ (S++[.mem v.ai [] false])=some (.exit 0,⟨[(3,.int .i64 (bn.iB n (v.bf.drop i):Nat))],[],nb⟩,S++[.mem v.ai [] false]):=by
 intro d;induction d with
 |zero=>
  intro i n hi;rw[aj,ak fE.eq_1];have h5:¬i<v.bf.length:=by omega
  have h6:v.bf.drop i=[]:=dV (by omega);simp[h5,h6,bn.iB]
 |succ d ih=>
  intro i n hi;have h3:i<v.bf.length:=by omega
  rw[aj,ak fE.eq_1];obtain⟨y,hy,gg⟩:=aE (l:=v.bf) (i:=i) (by omega);rw[aJ hy];obtain⟨hb,hc⟩:=hF y (eT hy);have hc:=hc (S++[.mem v.ai [] false]);have hw:=aV (i:=i) (by omega);have zm:IntKind.wrap .i64 ((y.depth:Int)+1)=((y.depth+1:Nat):Int):=by rw[wrap_i64 _ (by omega) (by omega)];omega
  rw[bn.iB];by_cases cV:n<y.depth+1
  ·have hn:=ih (i+1) (y.depth+1) (by omega)
   have xF:(n:Int)<(y.depth:Int)+1:=by omega
   simp at hn hw zm;simp[h3,gg,hc,zm,cV,xF];rw[ae fE.eq_1];simp[hw,hn]
  ·have hn:=ih (i+1) n (by omega)
   have xF:¬(n:Int)<(y.depth:Int)+1:=by omega
   simp at hn hw zm;simp[h3,gg,hc,zm,cV,xF];rw[ae fE.eq_1];simp[hw,hn]
theorem Ic(v:bn):v.Wf->v.depth<1000000->∀S:St,DF ax nk 57 [.agg v.ai] S=some (.int .i64 (v.depth:Nat),S):=by
 induction v using bn.ind with
 |h v ih=>
  intro hv hd S;rw[Eh,ak pT.eq_1];have hle:bn.iB 1 v.bf<=v.depth:=by rw[bn.jL];exact eJ _
  have hp:=((bn.iP v.bf 1 v.depth).1 hle).2;have h:=Ib v hv.one.bf v.depth hd S (fun x hx=>⟨by have:=hp x hx;omega,fun S'=>ih x hx (hv.all x hx) (by have:=hp x hx;omega) S'⟩) S.length v.bf.length 0 1 (by omega);simp only[jS,<-bn.jL]at h;simp at h;simp;rw[ae fE.eq_1];simp[h]
theorem uR(v:aX)(hv:v.Wf)(hd:v.depth<1000000)(S:St):DF ax nk 104 [.agg v.ai] S=some (.bool (iF v),S):=by
 rw[CZ,ak oF.eq_1];have h:=pU v hv hd (S++[.mem v.ai [] false]);unfold iF;by_cases k:v.kind<5
 ·have k':v.kind<=4:=by omega
  simp[h,k,k']
 ·have k':¬v.kind<=4:=by omega
  simp[k,k']
theorem wx(k:Int)(S:St):DF ax nk 101 [.int .i64 k] S=some (.bool (uD k),S):=by
 rw[Ei,ak pV.eq_1];unfold uD;by_cases c:k=1;·simp[c]
 ·by_cases c4:k=4
  ·simp[c4]
  ·simp[c,c4]
theorem wy(k:Int)(S:St):DF ax nk 102 [.int .i64 k] S=some (.bool (sd k),S):=by
 rw[Ej,ak pW.eq_1];unfold sd;by_cases c:k=2;·simp[c]
 ·by_cases c4:k=3
  ·simp[c4]
  ·simp[c,c4]
def bn.Ie(l:bn):Bool:=decide (l.kind<1)||(decide (10<l.kind)|| !dq l.a)
def bn.TZ(l:bn):Bool:=(uD l.kind&&(!dq l.b||decide (l.a=l.b)))||(!uD l.kind&& !l.b.isEmpty)
def bn.ai5(l:bn):Bool:=(sd l.kind&& !ni l.base l.type)||(!sd l.kind&&(!nI l.type|| !isZero l.base))
def bn.ai6(l:bn):Bool:= !decide (l.kind=8)&&(!isZero l.back|| !l.aO.isEmpty)
def bn.ai7(l:bn):Bool:=decide (4<l.type.kind)||(!iF l.back||decide (8<l.aO.length))
theorem bn.ad4(l:bn):l.cO=(!l.Ie&&(!l.TZ&&(!l.ai5&&(!l.ai6&&((!decide (l.kind=8)||(!l.ai7&&l.aO.all (uP l.type)))&&(if l.kind<9 then l.bf.isEmpty else decide (l.bf.length=1)&&l.bf.all bn.cO)))))):=by
 have nX:l.bf.isEmpty=true->l.bf.all bn.cO=true:=fun h=>by
  have:l.bf=[]:=by simpa using h
  rw[this];rfl
 have hab:decide (l.a=l.b)=decide (l.b=l.a):=by rw[lQ];simp;exact⟨Eq.symm,Eq.symm⟩
 have h4:decide (4<l.type.kind)= !decide (l.type.kind<=4):=by rw[lQ];simp
 have h8:decide (8<l.aO.length)= !decide (l.aO.length<=8):=by rw[lQ];simp
 rw[bn.td];unfold bn.jH bn.Ie bn.TZ bn.ai5 bn.ai6 bn.ai7 uD sd;rw[hab,h4,h8];by_cases h1:1<=l.kind;rotate_left
 ·have:l.kind<1:=by omega
  simp[h1,this]
 by_cases h10:l.kind<=10;rotate_left
 ·have:10<l.kind:=by omega
  simp[h10,this]
 have hc:l.kind=1\/l.kind=2\/l.kind=3\/l.kind=4\/l.kind=5\/l.kind=6\/l.kind=7\/l.kind=8\/l.kind=9\/l.kind=10:=by omega
 cases hi:l.bf.isEmpty
 ·rcases hc with k|k|k|k|k|k|k|k|k|k<;>simp only[k]<;>simp<;>
   (try(cases dq l.a<;>simp))<;>(try(cases nI l.type<;>simp))<;>(try(cases isZero l.base<;>simp))<;>(try(cases isZero l.back<;>simp))<;>(try(cases l.aO.isEmpty<;>simp))<;>(try(cases l.b.isEmpty<;>simp))
 ·have ha:=nX hi
  rw[ha];rcases hc with k|k|k|k|k|k|k|k|k|k<;>simp only[k]<;>simp<;>
   (try(cases dq l.a<;>simp))<;>(try(cases dq l.b<;>simp))<;>(try(cases nI l.type<;>simp))<;>(try(cases isZero l.base<;>simp))<;>(try(cases isZero l.back<;>simp))<;>(try(cases l.aO.isEmpty<;>simp))<;>(try(cases l.b.isEmpty<;>simp))<;>(try(cases ni l.base l.type<;>simp))<;>(try(cases decide (l.type.kind<=4)<;>simp))<;>(try(cases iF l.back<;>simp))<;>(try(cases decide (l.aO.length<=8)<;>simp))
structure bn.Dp(l:bn):Prop where
 type:l.type.depth<1000000
 base:l.base.depth<1000000
 back:l.back.depth<1000000
 pair:∀p∈l.aO,p.x.depth<1000000/\p.y.depth<1000000
inductive bn.Deep:bn->Prop
 |mk (l:bn) (one:l.Dp) (all:∀x∈l.bf,bn.Deep x):bn.Deep l
theorem bn.Deep.one{v:bn}(h:v.Deep):v.Dp:=by cases h;assumption
theorem bn.Deep.all{v:bn}(h:v.Deep):∀p∈v.bf,bn.Deep p:=by cases h;assumption
section
variable(l:bn)(hl:l.Of)(hd:l.Dp)(S:St)(sl:KE)(aa:List (Option Nat))(nb:Nat)(k:KC)
include hl in
theorem O0(h1:KE.get sl 1=.ptr S.length 0)(h3:KE.get sl 3=.int .i64 l.kind):CI ax nk (.aN [1,3,18] k) (CH (qV (lK nk (DF ax nk)) nJ ⟨sl,aa,nb⟩ (S++[.mem l.ai [] false])))=DC ax nk k ⟨[(1,.ptr S.length 0),(3,.int .i64 l.kind),(18,.bool l.Ie)],aa,nb⟩ (S++[.mem l.ai [] false]):=by
 have hn:=ji l.a hl.a (S++[.mem l.ai [] false]);unfold nJ bn.Ie;by_cases c1:l.kind<1;·simp[h1,h3,c1]
 by_cases c2:10<l.kind;·simp[h1,h3,c1,c2]
 simp[h1,h3,c1,c2,hn,bF]
include hl in
theorem O1(h1:KE.get sl 1=.ptr S.length 0)(h3:KE.get sl 3=.int .i64 l.kind):CI ax nk (.aN [1,3,43] k) (CH (qV (lK nk (DF ax nk)) nK ⟨sl,aa,nb⟩ (S++[.mem l.ai [] false])))=DC ax nk k ⟨[(1,.ptr S.length 0),(3,.int .i64 l.kind),(43,.bool l.TZ)],aa,nb⟩ (S++[.mem l.ai [] false]):=by
 have hn:=ji l.b hl.b (S++[.mem l.ai [] false]);have hu:=wx l.kind (S++[.mem l.ai [] false]);unfold nK bn.TZ;have e3:decide (l.b=[])=l.b.isEmpty:=by cases l.b<;>simp
 cases hq:uD l.kind<;>rw[hq]at hu;·simp[h1,h3,hu,bF]
 ·cases hb:dq l.b<;>rw[hb]at hn<;>by_cases hab:l.a=l.b<;>simp[h1,h3,hu,hn,hab,bF]
include hl hd in
theorem O2(h1:KE.get sl 1=.ptr S.length 0)(h3:KE.get sl 3=.int .i64 l.kind):CI ax nk (.aN [1,3,72] k) (CH (qV (lK nk (DF ax nk)) nL ⟨sl,aa,nb⟩ (S++[.mem l.ai [] false])))=DC ax nk k ⟨[(1,.ptr S.length 0),(3,.int .i64 l.kind),(72,.bool l.ai5)],aa,nb⟩ (S++[.mem l.ai [] false]):=by
 have hf:=yG l.base l.type hl.base hl.type hd.base hd.type (S++[.mem l.ai [] false]);have hu:=wy l.kind (S++[.mem l.ai [] false]);have q1:=yB l.type (.mk 0 [] []) hl.type.small sB (S++[.mem l.ai [] false]);have q2:=fP l.base oc hl.base.small gH (S++[.mem l.ai [] false]);rw[qC]at q1;rw[lW]at q2;unfold nL bn.ai5;cases hq:sd l.kind<;>rw[hq]at hu;·cases hz:nI l.type<;>rw[hz]at q1<;>simp[h1,h3,hu,q1,q2,bF,dr,hJ,hU,hY,d_,mF,mG,mH,jh]
 ·cases hz:ni l.base l.type<;>rw[hz]at hf<;>simp[h1,h3,hu,hf,bF]
include hl in
theorem O3(h1:KE.get sl 1=.ptr S.length 0)(h3:KE.get sl 3=.int .i64 l.kind):CI ax nk (.aN [1,3,87] k) (CH (qV (lK nk (DF ax nk)) nM ⟨sl,aa,nb⟩ (S++[.mem l.ai [] false])))=DC ax nk k ⟨[(1,.ptr S.length 0),(3,.int .i64 l.kind),(87,.bool l.ai6)],aa,nb⟩ (S++[.mem l.ai [] false]):=by
 have q2:=fP l.back oc hl.back.small gH (S++[.mem l.ai [] false]);rw[lW]at q2;have e1:decide (0<l.aO.length)= !l.aO.isEmpty:=by cases l.aO<;>simp
 unfold nM bn.ai6;by_cases k8:l.kind=8;·simp[h1,h3,k8]
 ·cases hz:isZero l.back<;>rw[hz]at q2<;>simp[h1,h3,k8,q2,bF,dr,hJ,hU,hY,d_]
  cases hp:l.aO<;>simp
include hl hd in
theorem O4(h1:KE.get sl 1=.ptr S.length 0)(h3:KE.get sl 3=.int .i64 l.kind):CI ax nk (.aN [1,3,105] k) (CH (qV (lK nk (DF ax nk)) nN ⟨sl,aa,nb⟩ (S++[.mem l.ai [] false])))=DC ax nk k ⟨[(1,.ptr S.length 0),(3,.int .i64 l.kind),(105,.bool l.ai7)],aa,nb⟩ (S++[.mem l.ai [] false]):=by
 have hs:=uR l.back hl.back hd.back (S++[.mem l.ai [] false]);unfold nN bn.ai7;have e8:decide ((8:Int)<(l.aO.length:Int))=decide (8<l.aO.length):=by rw[lQ];simp;omega
 have e3:l.ai[3]? =some (.int .i64 l.type.kind):=by rw[bn.fA,bj.fA];rfl
 have e3':∀h:3<l.ai.length,l.ai[3]=.int .i64 l.type.kind:=fun h=>(fI.1 e3).2;by_cases k4:4<l.type.kind;·simp[h1,h3,k4,e3']
 ·cases hz:iF l.back<;>rw[hz]at hs<;>simp[h1,h3,k4,hs,e8,e3',bF]
include hl hd in
theorem QY:DC ax nk (.loop eF) ⟨[(1,.ptr S.length 0),(3,.int .i64 l.kind),(4,.int .i64 0)],[],nb⟩ (S++[.mem l.ai [] false])=
 if l.aO.all (uP l.type)=true then some (.exit 0,⟨[(1,.ptr S.length 0),(3,.int .i64 l.kind)],[],nb⟩,S++[.mem l.ai [] false])else some (.ret,⟨[(2,.bool false)],[],nb⟩,S++[.mem l.ai [] false]):=by
 have hlen:=hl.aO;refine OY l.aO (uP l.type) (fun i=>DC ax nk (.loop eF) ⟨[(1,.ptr S.length 0),(3,.int .i64 l.kind),(4,.int .i64 (i:Nat))],[],nb⟩ (S++[.mem l.ai [] false])) _ _ ?_ ?_
 ·intro i x hx
  have hi:=(fI.1 hx).1;have kM:∀h:i<l.aO.length,l.aO[i]=x:=fun h=>(fI.1 hx).2;have hw:=aV (i:=i) (by omega);simp at hw;have hm:=eT hx;have s1:=uR x.x (hl.pair x hm).1 (hd.pair x hm).1 (S++[.mem l.ai [] false]);have s2:=yG x.y l.type (hl.pair x hm).2 hl.type (hd.pair x hm).2 hd.type (S++[.mem l.ai [] false]);rw[aj,ak eF.eq_1];unfold uP;cases ha:iF x.x<;>rw[ha]at s1;·simp[km,hi,kM,s1,bF]
  ·cases hb:ni x.y l.type<;>rw[hb]at s2
   ·simp[km,hi,kM,s1,s2,bF]
   ·simp[km,hi,kM,s1,s2,bF]
    rw[ae eF.eq_1];simp[hw]
 ·rw[aj,ak eF.eq_1]
  simp
end
theorem Ig(l:bn):l.Wf->l.Deep->∀S:St,DF ax nk 58 [.agg l.ai] S=some (.bool l.cO,S):=by
 induction l using bn.ind with
 |h l ih=>
  intro hl hd S;have r0:=O0 l hl.one S;have r1:=O1 l hl.one S;have r2:=O2 l hl.one hd.one S;have r3:=O3 l hl.one S;have r4:=O4 l hl.one hd.one S;have lp:=QY l hl.one hd.one S S.length;rw[Ek,ak pX.eq_1,bn.ad4];cases b0:l.Ie;rotate_left
  ·rw[b0]at r0
   simp[r0]
  rw[b0]at r0;cases b1:l.TZ;rotate_left
  ·rw[b1]at r1
   simp[r0];simp[r1]
  rw[b1]at r1;cases b2:l.ai5;rotate_left
  ·rw[b2]at r2
   simp[r0];simp[r1];simp[r2]
  rw[b2]at r2;cases b3:l.ai6;rotate_left
  ·rw[b3]at r3
   simp[r0];simp[r1];simp[r2];simp[r3]
  rw[b3]at r3;by_cases k8:l.kind=8
  ·have k9:l.kind<9:=by omega
   cases b4:l.ai7;rotate_left
   ·rw[b4]at r4
    simp[r0];simp[r1];simp[r2];simp[r3];rw[k8]at r4;simp[k8,r4]
   rw[b4]at r4;have e2:decide (l.bf.length=0)=l.bf.isEmpty:=by cases l.bf<;>simp
   cases hp:l.aO.all (uP l.type)
   ·rw[hp]at lp
    simp[r0];simp[r1];simp[r2];simp[r3];rw[k8]at r4 lp;simp[k8,r4];simp at lp;rw[ae eF.eq_1];simp[lp]
   ·rw[hp]at lp
    simp[r0];simp[r1];simp[r2];simp[r3];rw[k8]at r4 lp;simp[k8,r4];simp at lp;rw[ae eF.eq_1];simp[lp];cases l.bf<;>simp
  ·by_cases k9:l.kind<9
   ·simp[r0]
    simp[r1];simp[r2];simp[r3];simp[k8,k9];cases l.bf<;>simp
   ·by_cases hn:l.bf.length=1
    ·obtain⟨x,hx⟩:=Ht.1 hn
     have h6:=ih x (by rw[hx];simp) (hl.all x (by rw[hx];simp)) (hd.all x (by rw[hx];simp)) (S++[.mem l.ai [] false]);have ix:=D2 l.bf .i64 0;rw[hx]at ix;simp at ix;simp[r0];simp[r1];simp[r2];simp[r3];simp[k8,k9,hx,ix,h6]
    ·have Cr:¬((l.bf.length:Int)=1):=by omega
     simp[r0];simp[r1];simp[r2];simp[r3];simp[k8,k9,hn,Cr]
theorem HM(v:bn)(hv:v.Wf)(hd:v.depth<1000000)(hp:v.Deep)(S:St):DF ax nk 23 [.agg v.ai] S=some (.bool (v.aR 5),S):=by
 rw[El,ak pY.eq_1,bn.CY];have h1:=Ic v hv hd (S++[.mem v.ai [] false]);have h2:=Ig v hv hp (S++[.mem v.ai [] false]);by_cases c:v.depth<=5
 ·have c':(v.depth:Int)<=5:=by omega
  simp[h1,h2,c,c']
 ·have c':¬(v.depth:Int)<=5:=by omega
  simp[h1,c,c']
end
theorem HY(l:List dK)(nb:Nat)(S:St)(n:Nat)(hl:l.length=n)(hb:n<9223372036854775808):∀d i,i+d=n->
 DC ax nk (.loop eE) ⟨[(0,eD l),(3,.int .i64 (i:Nat))],[],nb⟩ S=some (.exit 0,⟨[],[],nb⟩,S)\/
 DC ax nk (.loop eE) ⟨[(0,eD l),(3,.int .i64 (i:Nat))],[],nb⟩ S=some (.ret,⟨[(2,.bool true)],[],nb⟩,S):=by
 intro d;induction d with
 |zero=>
  intro i hi;rw[aj,ak eE.eq_1];have h5:¬i<n:=by omega
  left;simp[h5,hl]
 |succ d ih=>
  intro i hi;have h3:i<n:=by omega
  rw[aj,ak eE.eq_1];obtain⟨x,hx,kM⟩:=aE (l:=l) (i:=i) (by omega);have hn:=ih (i+1) (by omega);have hw:=aV (i:=i) (by omega);simp at hn hw;by_cases hc:(100:Int)<x.name.length
  ·right
   simp[h3,hl,kM,hc]
  ·simp[h3,hl,kM,hc]
   rw[ae eE.eq_1];simp[hw];exact hn
theorem HZ(l:List dK)(hb:l.length<9223372036854775808)(S:St):∃r,DF ax nk 38 [eD l] S=some (.bool r,S):=by
 rw[D_,ak pL.eq_1];by_cases h:l.length>40
 ·have h':(40:Int)<l.length:=by omega
  exact⟨true,by simp[h']⟩
 ·have h':¬(40:Int)<l.length:=by omega
  rcases HY l S.length S l.length rfl hb l.length 0 (by omega)with e|e
  ·refine⟨false, ?_⟩
   simp at e;simp[h'];rw[ae eE.eq_1];simp[e]
  ·refine⟨true, ?_⟩
   simp at e;simp[h'];rw[ae eE.eq_1];simp[e]
theorem J8(v:aX)(D:Nat)(deep:Int)(hd:IntKind.i64.wrap (deep -1)=D)(hF:∀x∈v.parts,∀n S,∃r:Int,DF ax nk 81 [.agg x.ai,.int .i64 n,.int .i64 D] S=some (.int .i64 r,S)/\(0<=r->x.depth<=D))(S:St)(m:Nat)(hl:v.parts.length=m)(hb:m<9223372036854775808):∀d i,i+d=m->∀n:Int,∃r:Int,
 DC ax nk (.loop iv) ⟨[(1,.int .i64 n),(2,.int .i64 deep),(3,.ptr S.length 0),(7,.int .i64 (i:Nat))],[],S.length⟩ (S++[.mem v.ai [] false])=some (.exit 0,⟨[(1,.int .i64 r)],[],S.length⟩,S++[.mem v.ai [] false])/\(0<=r->0<=n/\∀x∈v.parts.drop i,x.depth<=D):=by
 intro d;induction d with
 |zero=>
  intro i hi n;rw[aj,ak iv.eq_1];have h5:¬i<m:=by omega
  have h6:v.parts.drop i=[]:=dV (by omega);exact⟨n,by simp[h5,hl],fun h=>⟨h,by rw[h6];intro x hx;cases hx⟩⟩
 |succ d ih=>
  intro i hi n;have h3:i<m:=by omega
  rw[aj,ak iv.eq_1];by_cases hc:0<=n;rotate_left;·exact⟨n,by simp[h3,hl,hc],fun h=>absurd h hc⟩
  obtain⟨x,hx,kM⟩:=aE (l:=v.parts) (i:=i) (by omega);obtain⟨r,hr,hrd⟩:=hF x (eT hx) n (S++[.mem v.ai [] false]);obtain⟨r',hn,hnd⟩:=ih (i+1) (by omega) r;have hw:=aV (i:=i) (by omega);simp at hn hw;rw[<-hd]at hr;refine⟨r', ?_,fun h=>⟨hc, ?_⟩⟩
  ·simp[h3,hl,hc,kM,hr]
   rw[ae iv.eq_1];simp[hw,hn]
  ·obtain⟨h1,h2⟩:=hnd h
   rw[aJ hx];intro y hy;rcases yi.1 hy with e|e;·rw[e];exact hrd h1
   ·exact h2 y e
theorem J9(v:aX):v.Wf->∀(D:Nat),D<1000000->∀(n:Int)(S:St),∃r:Int,DF ax nk 81 [.agg v.ai,.int .i64 n,.int .i64 (D:Nat)] S=some (.int .i64 r,S)/\(0<=r->v.depth<=D):=by
 induction v using aX.ind with
 |h v ih=>
  intro hv D hD n S;rw[F6,ak rk.eq_1];cases D with
  |zero=>exact⟨-1,by simp,fun h=>absurd h (by decide)⟩
  |succ D=>
  have c0:¬((D:Int)+1=0):=by omega
  by_cases c1:v.s.length>400
  ·have h':(400:Int)<v.s.length:=by omega
   exact⟨-1,by simp[c0,h'],fun h=>absurd h (by decide)⟩
  have hd:IntKind.i64.wrap (((D+1:Nat):Int) -1)=(D:Nat):=by rw[wrap_i64 _ (by omega) (by omega)];omega
  obtain⟨r,hr,hrd⟩:=J8 v D ((D+1:Nat):Int) hd (fun x hx n S=>ih x hx (hv.all x hx) D (by omega) n S) S v.parts.length rfl hv.one.parts v.parts.length 0 (by omega) (IntKind.i64.wrap (IntKind.i64.wrap (IntKind.i64.wrap (n -1) -v.aU.length) -v.ids.length));simp at hr;have h':¬(400:Int)<v.s.length:=by omega
  refine⟨r, ?_,fun h=>?_⟩
  ·simp[c0,h']
   rw[ae iv.eq_1];simp[hr]
  ·rw[aX.jL]
   exact(aX.iP v.parts 1 (D+1)).2 ⟨by omega,fun x hx=>by have:=(hrd h).2 x (by simpa using hx);omega⟩
theorem jM(v:aX)(hv:v.Wf)(S:St):∃r,DF ax nk 39 [.agg v.ai] S=some (.bool r,S)/\(r=false->v.depth<=12):=by rw[Ea,ak pM.eq_1];obtain⟨r,hr,hd⟩:=J9 v hv 12 (by omega) 300 (S++[.mem v.ai [] false]);simp at hr;exact⟨decide (r<0),by simp[hr],fun h=>hd (by have:=of_decide_eq_false h;omega)⟩
theorem H3(v:bj)(deep n:Int)(S:St)(m:Nat)(hl:v.ar.length=m)(hb:m<9223372036854775808):∀d i,i+d=m->
 DC ax nk (.loop eX) ⟨[(1,.int .i64 n),(2,.int .i64 deep),(3,.ptr S.length 0),(7,.int .i64 (i:Nat))],[],S.length⟩ (S++[.mem v.ai [] false])=some (.exit 0,⟨[(1,.int .i64 n),(2,.int .i64 deep),(3,.ptr S.length 0)],[],S.length⟩,S++[.mem v.ai [] false])\/
 DC ax nk (.loop eX) ⟨[(1,.int .i64 n),(2,.int .i64 deep),(3,.ptr S.length 0),(7,.int .i64 (i:Nat))],[],S.length⟩ (S++[.mem v.ai [] false])=some (.ret,⟨[(6,.int .i64 (-1))],[],S.length⟩,S++[.mem v.ai [] false]):=by
 intro d;induction d with
 |zero=>
  intro i hi;rw[aj,ak eX.eq_1];have h5:¬i<m:=by omega
  left;simp[h5,hl]
 |succ d ih=>
  intro i hi;have h3:i<m:=by omega
  rw[aj,ak eX.eq_1];by_cases hc:0<=n;rotate_left
  ·left
   simp[h3,hl,hc]
  obtain⟨x,hx,kM⟩:=aE (l:=v.ar) (i:=i) (by omega);have hn:=ih (i+1) (by omega);have hw:=aV (i:=i) (by omega);simp at hn hw;by_cases hk:x.length>100
  ·right
   have h':(100:Int)<x.length:=by omega
   simp[h3,hl,hc,kM,h']
  ·have h':¬(100:Int)<x.length:=by omega
   simp[h3,hl,hc,kM,h'];rw[ae eX.eq_1];simp[hw];exact hn
theorem H4(v:bj)(D:Nat)(deep:Int)(hd:IntKind.i64.wrap (deep -1)=D)(hF:∀x∈v.parts,∀n S,∃r:Int,DF ax nk 130 [.agg x.ai,.int .i64 n,.int .i64 D] S=some (.int .i64 r,S)/\(0<=r->x.depth<=D))(S:St)(m:Nat)(hl:v.parts.length=m)(hb:m<9223372036854775808):∀d i,i+d=m->∀n:Int,∃r:Int,
 DC ax nk (.loop iw) ⟨[(1,.int .i64 n),(2,.int .i64 deep),(3,.ptr S.length 0),(8,.int .i64 (i:Nat))],[],S.length⟩ (S++[.mem v.ai [] false])=some (.exit 2,⟨[(1,.int .i64 r)],[],S.length⟩,S++[.mem v.ai [] false])/\(0<=r->0<=n/\∀x∈v.parts.drop i,x.depth<=D):=by
 intro d;induction d with
 |zero=>
  intro i hi n;rw[aj,ak iw.eq_1];have h5:¬i<m:=by omega
  have h6:v.parts.drop i=[]:=dV (by omega);exact⟨n,by simp[h5,hl],fun h=>⟨h,by rw[h6];intro x hx;cases hx⟩⟩
 |succ d ih=>
  intro i hi n;have h3:i<m:=by omega
  rw[aj,ak iw.eq_1];by_cases hc:0<=n;rotate_left;·exact⟨n,by simp[h3,hl,hc],fun h=>absurd h hc⟩
  obtain⟨x,hx,kM⟩:=aE (l:=v.parts) (i:=i) (by omega);obtain⟨r,hr,hrd⟩:=hF x (eT hx) n (S++[.mem v.ai [] false]);obtain⟨r',hn,hnd⟩:=ih (i+1) (by omega) r;have hw:=aV (i:=i) (by omega);simp at hn hw;rw[<-hd]at hr;refine⟨r', ?_,fun h=>⟨hc, ?_⟩⟩
  ·simp[h3,hl,hc,kM,hr]
   rw[ae iw.eq_1];simp[hw,hn]
  ·obtain⟨h1,h2⟩:=hnd h
   rw[aJ hx];intro y hy;rcases yi.1 hy with e|e;·rw[e];exact hrd h1
   ·exact h2 y e
theorem J_(v:bj):v.Wf->∀(D:Nat),D<1000000->∀(n:Int)(S:St),∃r:Int,DF ax nk 130 [.agg v.ai,.int .i64 n,.int .i64 (D:Nat)] S=some (.int .i64 r,S)/\(0<=r->v.depth<=D):=by
 induction v using bj.ind with
 |h v ih=>
  intro hv D hD n S;rw[F7,ak rm.eq_1];cases D with
  |zero=>exact⟨-1,by simp,fun h=>absurd h (by decide)⟩
  |succ D=>
  have c0:¬((D:Int)+1=0):=by omega
  have hd:IntKind.i64.wrap (((D+1:Nat):Int) -1)=(D:Nat):=by rw[wrap_i64 _ (by omega) (by omega)];omega
  have ha:=H3 v ((D+1:Nat):Int) (IntKind.i64.wrap (IntKind.i64.wrap (n -1) -v.ar.length)) S v.ar.length rfl hv.one.ar v.ar.length 0 (by omega);obtain⟨r,hr,hrd⟩:=H4 v D ((D+1:Nat):Int) hd (fun x hx n S=>ih x hx (hv.all x hx) D (by omega) n S) S v.parts.length rfl hv.one.parts v.parts.length 0 (by omega) (IntKind.i64.wrap (IntKind.i64.wrap (n -1) -v.ar.length));simp at hr ha;rcases ha with e|e
  ·refine⟨r, ?_,fun h=>?_⟩
   ·simp[c0]
    rw[ae eX.eq_1];simp[e];rw[ae iw.eq_1];simp[hr]
   ·rw[bj.jL]
    exact(bj.iP v.parts 1 (D+1)).2 ⟨by omega,fun x hx=>by have:=(hrd h).2 x (by simpa using hx);omega⟩
  ·refine⟨-1, ?_,fun h=>absurd h (by decide)⟩
   simp[c0];rw[ae eX.eq_1];simp[e]
theorem H5(v:bj)(hv:v.Wf)(S:St):∃r,DF ax nk 82 [.agg v.ai] S=some (.bool r,S)/\(r=false->v.depth<=12):=by rw[Eb,ak pO.eq_1];obtain⟨r,hr,hd⟩:=J_ v hv 12 (by omega) 300 (S++[.mem v.ai [] false]);simp at hr;exact⟨decide (r<0),by simp[hr],fun h=>hd (by have:=of_decide_eq_false h;omega)⟩
theorem H6(v:bn)(hp:∀p∈v.aO,p.x.Wf/\p.y.Wf)(deep:Int)(S:St)(m:Nat)(hl:v.aO.length=m)(hb:m<9223372036854775808):∀d i,i+d=m->
 (DC ax nk (.loop dy) ⟨[(1,.int .i64 deep),(2,.ptr S.length 0),(5,.int .i64 (i:Nat))],[],S.length⟩ (S++[.mem v.ai [] false])=some (.exit 0,⟨[(1,.int .i64 deep),(2,.ptr S.length 0)],[],S.length⟩,S++[.mem v.ai [] false])/\∀p∈v.aO.drop i,p.x.depth<=12/\p.y.depth<=12)\/
 DC ax nk (.loop dy) ⟨[(1,.int .i64 deep),(2,.ptr S.length 0),(5,.int .i64 (i:Nat))],[],S.length⟩ (S++[.mem v.ai [] false])=some (.ret,⟨[(4,.bool false)],[],S.length⟩,S++[.mem v.ai [] false]):=by
 intro d;induction d with
 |zero=>
  intro i hi;rw[aj,ak dy.eq_1];have h5:¬i<m:=by omega
  have h6:v.aO.drop i=[]:=dV (by omega);left;exact⟨by simp[h5,hl],by rw[h6];intro x hx;cases hx⟩
 |succ d ih=>
  intro i hi;have h3:i<m:=by omega
  rw[aj,ak dy.eq_1];obtain⟨x,hx,kM⟩:=aE (l:=v.aO) (i:=i) (by omega);obtain⟨r1,hr1,hd1⟩:=jM x.x (hp x (eT hx)).1 (S++[.mem v.ai [] false]);obtain⟨r2,hr2,hd2⟩:=jM x.y (hp x (eT hx)).2 (S++[.mem v.ai [] false]);have hn:=ih (i+1) (by omega);have hw:=aV (i:=i) (by omega);simp at hw;cases r1;rotate_left
  ·right
   simp[ju,h3,hl,kM,hr1]
  cases r2;rotate_left
  ·right
   simp[ju,h3,hl,kM,hr1,hr2]
  rcases hn with⟨e1,e2⟩|e
  ·left
   simp at e1;refine⟨?_, ?_⟩
   ·simp[ju,h3,hl,kM,hr1,hr2]
    rw[ae dy.eq_1];simp[hw];exact e1
   ·rw[aJ hx]
    intro y hy;rcases yi.1 hy with e|e;·rw[e];exact⟨hd1 rfl,hd2 rfl⟩
    ·exact e2 y e
  ·right
   simp at e;simp[ju,h3,hl,kM,hr1,hr2];rw[ae dy.eq_1];simp[hw];exact e
theorem H7(v:bn)(D:Nat)(deep:Int)(hd:IntKind.i64.wrap (deep -1)=D)(hF:∀x∈v.bf,∀S,∃r,DF ax nk 40 [.agg x.ai,.int .i64 D] S=some (.bool r,S)/\(r=true->x.depth<=D/\x.Deep))(S:St)(m:Nat)(hl:v.bf.length=m)(hb:m<9223372036854775808):∀d i,i+d=m->
 (DC ax nk (.loop dX) ⟨[(1,.int .i64 deep),(2,.ptr S.length 0),(6,.int .i64 (i:Nat))],[],S.length⟩ (S++[.mem v.ai [] false])=some (.exit 2,⟨[],[],S.length⟩,S++[.mem v.ai [] false])/\∀x∈v.bf.drop i,x.depth<=D/\x.Deep)\/
 DC ax nk (.loop dX) ⟨[(1,.int .i64 deep),(2,.ptr S.length 0),(6,.int .i64 (i:Nat))],[],S.length⟩ (S++[.mem v.ai [] false])=some (.ret,⟨[(4,.bool false)],[],S.length⟩,S++[.mem v.ai [] false]):=by
 intro d;induction d with
 |zero=>
  intro i hi;rw[aj,ak dX.eq_1];have h5:¬i<m:=by omega
  have h6:v.bf.drop i=[]:=dV (by omega);left;exact⟨by simp[h5,hl],by rw[h6];intro x hx;cases hx⟩
 |succ d ih=>
  intro i hi;have h3:i<m:=by omega
  rw[aj,ak dX.eq_1];obtain⟨x,hx,kM⟩:=aE (l:=v.bf) (i:=i) (by omega);obtain⟨r,hr,hrd⟩:=hF x (eT hx) (S++[.mem v.ai [] false]);rw[<-hd]at hr;have hn:=ih (i+1) (by omega);have hw:=aV (i:=i) (by omega);simp at hw;cases r
  ·right
   simp[h3,hl,kM,hr,bF]
  rcases hn with⟨e1,e2⟩|e
  ·left
   simp at e1;refine⟨?_, ?_⟩
   ·simp[h3,hl,kM,hr,bF]
    rw[ae dX.eq_1];simp[hw];exact e1
   ·rw[aJ hx]
    intro y hy;rcases yi.1 hy with e|e;·rw[e];exact hrd rfl
    ·exact e2 y e
  ·right
   simp at e;simp[h3,hl,kM,hr,bF];rw[ae dX.eq_1];simp[hw];exact e
theorem Ka(v:bn):v.Wf->∀(D:Nat),D<1000000->∀(S:St),∃r,DF ax nk 40 [.agg v.ai,.int .i64 (D:Nat)] S=some (.bool r,S)/\(r=true->v.depth<=D/\v.Deep):=by
 induction v using bn.ind with
 |h v ih=>
  intro hv D hD S;rw[F8,ak rn.eq_1];have no:∀{P:Prop},(false=true->P):=fun h=>by cases h
  cases D with
  |zero=>exact⟨false,by simp[cJ],no⟩
  |succ D=>
  have c0:¬((D:Int)+1=0):=by omega
  have hd:IntKind.i64.wrap (((D+1:Nat):Int) -1)=(D:Nat):=by rw[wrap_i64 _ (by omega) (by omega)];omega
  have ha:=H6 v hv.one.pair ((D+1:Nat):Int) S v.aO.length rfl hv.one.aO v.aO.length 0 (by omega);have hb:=H7 v D ((D+1:Nat):Int) hd (fun x hx S=>ih x hx (hv.all x hx) D (by omega) S) S v.bf.length rfl hv.one.bf v.bf.length 0 (by omega);obtain⟨t1,ht1,d1⟩:=H5 v.type hv.one.type (S++[.mem v.ai [] false]);obtain⟨t2,ht2,d2⟩:=jM v.base hv.one.base (S++[.mem v.ai [] false]);obtain⟨t3,ht3,d3⟩:=jM v.back hv.one.back (S++[.mem v.ai [] false]);simp only[jS]at ha hb;by_cases c1:(2:Int)<v.bf.length;·exact⟨false,by simp[cJ,c0,c1],no⟩
  by_cases c2:(20:Int)<v.aO.length;·exact⟨false,by simp[cJ,c0,c1,c2],no⟩
  by_cases c3:(100:Int)<v.a.length;·exact⟨false,by simp[cJ,c0,c1,c2,c3],no⟩
  by_cases c4:(100:Int)<v.b.length;·exact⟨false,by simp[cJ,c0,c1,c2,c3,c4],no⟩
  cases t1;rotate_left;·exact⟨false,by simp[cJ,c0,c1,c2,c3,c4,ht1],no⟩
  cases t2;rotate_left;·exact⟨false,by simp[cJ,c0,c1,c2,c3,c4,ht1,ht2],no⟩
  cases t3;rotate_left;·exact⟨false,by simp[cJ,c0,c1,c2,c3,c4,ht1,ht2,ht3],no⟩
  have q1:=d1 rfl;have q2:=d2 rfl;have q3:=d3 rfl;rcases ha with⟨e,ep⟩|e
  ·rcases hb with⟨e',ei⟩|e'
   ·refine⟨true, ?_,fun _=>⟨?_,.mk v ⟨by omega,by omega,by omega,fun p hp=>⟨by have:=(ep p hp).1;omega,by have:=(ep p hp).2;omega⟩⟩ fun x hx=>(ei x hx).2⟩⟩
    ·simp at e e'
     simp[cJ,c0,c1,c2,c3,c4,ht1,ht2,ht3];rw[ae dy.eq_1];simp[e];rw[ae dX.eq_1];simp[e']
    ·rw[bn.jL]
     exact(bn.iP v.bf 1 (D+1)).2 ⟨by omega,fun x hx=>by have:=(ei x hx).1;omega⟩
   ·refine⟨false, ?_,no⟩
    simp at e e';simp[cJ,c0,c1,c2,c3,c4,ht1,ht2,ht3];rw[ae dy.eq_1];simp[e];rw[ae dX.eq_1];simp[e']
  ·refine⟨false, ?_,no⟩
   simp at e;simp[cJ,c0,c1,c2,c3,c4,ht1,ht2,ht3];rw[ae dy.eq_1];simp[e]
theorem HP(v:bn)(hv:v.Wf)(S:St):∃r,DF ax nk 17 [.agg v.ai] S=some (.bool r,S)/\(r=false->v.depth<=8/\v.Deep):=by rw[Ec,ak pP.eq_1];obtain⟨r,hr,hd⟩:=Ka v hv 8 (by omega) (S++[.mem v.ai [] false]);simp at hr;exact⟨!r,by simp[hr,bF],fun h=>hd (by simpa using h)⟩
theorem HO(v:ph)(hv:v.Wf)(S:St):∃r,DF ax nk 16 [.agg v.ai] S=some (.bool r,S)/\(r=false->v.value.depth<=12):=by
 rw[Ed,ak pQ.eq_1];obtain⟨r1,hr1⟩:=HZ v.path hv.abt (S++[.mem v.ai [] false]);obtain⟨r2,hr2,hd2⟩:=jM v.value hv.value (S++[.mem v.ai [] false]);cases r1;·exact⟨r2,by simp[hr1,hr2],hd2⟩
 ·exact⟨true,by simp[hr1],fun h=>by cases h⟩
def ej(j:Nat)(aW:bq):cF:=.mem [bk j 0 1 (bW aW)] (if aW=[]then[]else[some aW.length]) false
theorem df(l:bq):ct (bW l)=true:=jJ.2 fun x hx=>by obtain⟨b,_,rfl⟩:=Fq.1 hx;rfl
theorem kN(l:bq):bW l=[]↔l=[]:=by simp[bW]
theorem Jl(S:St)(b:bq)(h:b≠[]):bL S (bO b)=some (1,bW b):=by
 cases b with
 |nil=>exact absurd rfl h
 |cons a r=>rfl
theorem aed{S:St}{j:Nat}{aW b:bq}(hS:S[j]? =some (ej j aW))(hl:aW.length+b.length<=1073741824):
 ∃v1 t1 S1 t2,cb 1 [] S (bk j 0 1 (bW aW)) (bO b)=some (v1,t1,S1)/\∀nb,bg t1 nb S1 1 (.ptr j 0) v1=some (t2,S.set j (ej j (aW++b))):=by
 have hj:=(fI.1 hS).1;by_cases hb:b=[]
 ·subst hb
  refine⟨bk j 0 1 (bW aW),[],S,[], ?_,fun nb=>?_⟩
  ·have e:bL S (bO [])=some (1,[]):=rfl
   by_cases hn:bW aW=[];·simp[cb,bk,hn,e]
   ·simp[cb,bk,hn,e]
  ·rw[kH]
   unfold bg;simp only[hS,ej];by_cases ho:aW=[]
   ·subst ho
    simp[bk,bW,aaq,AV.cells,aB,aS,dU,aL]
   ·have hp:ct (bW aW)=true:=df aW
    have Vq:¬bW aW=[]:=fun e=>ho ((kN _).1 e);simp[bk,Vq,aaq,AV.cells,aB,aS,hp,dU,aL]
 ·have he:=Jl S b hb
  have Ms:¬(bW b).length=0:=by rw[lR];cases b<;>simp at hb⊢
  have hbl:¬b.length=0:=by rw[lR]at Ms;exact Ms
  by_cases ho:aW=[]
  ·subst ho
   refine⟨.sl (.fr 0) 1 (bW b),[some b.length],S,[none], ?_,fun nb=>?_⟩
   ·have:b.length<=1073741824:=by simp at hl;exact hl
    simp[bk,bW,cb];simp[show bL S (bO b)=some (1,b.map fun x=>[gy x])from he,hb,this]
   ·have hp:ct (bW b)=true:=df b
    have Vq:¬bW b=[]:=fun e=>hb ((kN _).1 e);unfold bg;simp only[hS,ej];simp[bk,Vq,hb,aaq,AV.cells,aB,aS,hp,dU,aL]
  ·have Vq:¬bW aW=[]:=fun e=>ho ((kN _).1 e)
   have aA4:¬bW (aW++b)=[]:=fun e=>by rw[kN]at e;simp at e;exact ho e.1
   have hp:ct (bW (aW++b))=true:=df _;have cV:¬(1073741824<aW.length+b.length):=by omega
   refine⟨.sl (.bx j 0) 1 (bW (aW++b)),[],S.set j (.mem [bk j 0 1 (bW aW)] [some (aW++b).length] false),[], ?_,fun nb=>?_⟩
   ·unfold cb
    rw[he];simp only[ej,if_neg ho]at hS;simp[bk,Vq,hb,hS,cV]
   ·unfold bg
    simp only[qK hj,ej];rw[JM]at hp;have apo:¬(bW aW=[]/\bW b=[]):=fun e=>Vq e.1;simp[bk,apo,ho,aaq,AV.cells,aB,aS,hp,dU,aL]
theorem iG{S:St}{j:Nat}{aW:bq}(hS:S[j]? =some (ej j aW))(b:bq)(hl:aW.length+b.length<=1073741824):DF ax nk 47 [.ptr j 0,bO b] S=some (.cT [],S.set j (ej j (aW++b))):=by
 rw[yE,ak oV.eq_1];obtain⟨v1,t1,S1,t2,h1,h2⟩:=aed hS hl;have hj:=(fI.1 hS).1;have Od:aY S .cell (.ptr j 0)=some (bk j 0 1 (bW aW)):=by rw[bd hS];rfl
 have htk:(S.set j (ej j (aW++b))).take S.length=S.set j (ej j (aW++b)):=gO (by simp);simp[Od,h1,h2,dh,htk,cC,ay,bA,aw]
theorem Jm{S:St}{j:Nat}{o o':bq}(hS:S[j]? =some (ej j o)):(S.set j (ej j o'))[j]? =some (ej j o'):=by have hj:=(fI.1 hS).1;simp[hj]
theorem ZA(c:UInt8):norm (.sl .exact 1 [[AV.int .u8 (c.toNat:Int)]])=bO [c]:=rfl
theorem rS{S:St}{j:Nat}{aW:bq}(hS:S[j]? =some (ej j aW))(c:UInt8)(hl:aW.length+1<=1073741824):DF ax nk 46 [.ptr j 0,.int .u8 (c.toNat:Int)] S=some (.cT [],S.set j (ej j (aW++[c]))):=by rw[Ja,ak sE.eq_1];have h:=iG hS [c] (by simpa using hl);have htk:(S.set j (ej j (aW++[c]))).take S.length=S.set j (ej j (aW++[c])):=gO (by simp);have n1:=ZA c;have tk:∀t,aT t (.cT [])=(.cT [],t):=fun _=>rfl;simp[bN,aB,cg,bB,na,n1,h,htk,tk,cC,ay,bA,aw]
theorem at2(n:Nat):IntKind.wrap .u8 (BitVec.ofInt IntKind.u8.bits (IntKind.wrap .u8 (n:Int))|||BitVec.ofInt IntKind.u8.bits 128).toNat=(((UInt8.ofNat (n %128+128)).toNat:Nat):Int):=by
 have key:∀x:Fin 256,IntKind.wrap .u8 (BitVec.ofInt IntKind.u8.bits (x.val:Int)|||BitVec.ofInt IntKind.u8.bits 128).toNat=((x.val %128+128:Nat):Int):=by decide+kernel
 have hw:IntKind.wrap .u8 (n:Int)=((n %256:Nat):Int):=by show(n:Int)%256=_;omega
 have:=key ⟨n %256,Nat.mod_lt _ (by decide)⟩;rw[hw,this];have e:(UInt8.ofNat (n %128+128)).toNat=n %128+128:=by rw[yA];omega
 rw[e];congr 1;simp only;omega
theorem ZB{n:Nat}(h:n<128):bI n=[UInt8.ofNat n]:=by unfold bI;rw[if_pos h]
theorem afi{n:Nat}(h:¬n<128):bI n=UInt8.ofNat (n %128+128)::bI (n/128):=by
 conv=>lhs;unfold bI
 rw[if_neg h]
theorem Rv{j nb:Nat}:∀(m n:Nat)(aW:bq)(S:St),n<m->n<18446744073709551616->S[j]? =some (ej j aW)->aW.length+(bI n).length<=1073741824->
 ∃(pre:bq)(n':Nat),n'<128/\bI n=pre++[UInt8.ofNat n']/\DC ax nk (.loop ja) ⟨[(0,.ptr j 0),(1,.int .u64 (n:Int))],[],nb⟩ S=some (.exit 0,⟨[(0,.ptr j 0),(1,.int .u64 (n':Int))],[],nb⟩,S.set j (ej j (aW++pre))):=by
 intro m;induction m with
 |zero=>intro n aW S h;omega
 |succ m ih=>
  intro n aW S hm hn hS hl;by_cases h:n<128
  ·refine⟨[],n,h,by rw[ZB h];rfl, ?_⟩
   have h':¬(128:Int)<=n:=by omega
   have Cr:¬128<=n:=by omega
   have ss:S.set j (ej j (aW++[]))=S:=by rw[kH];obtain⟨a,e⟩:=fI.1 hS;rw[<-e,Qg]
   rw[aj,ak ja.eq_1,ss];simp[h']
  ·have G2:=afi h
   rw[G2]at hl;simp at hl;have hr:=iG hS [UInt8.ofNat (n %128+128)] (by simp;omega);obtain⟨pre,n',a1,a2,a3⟩:=ih (n/128) (aW++[UInt8.ofNat (n %128+128)]) (S.set j (ej j (aW++[UInt8.ofNat (n %128+128)]))) (by omega) (by omega) (Jm hS) (by simp;omega);refine⟨UInt8.ofNat (n %128+128)::pre,n',a1,by rw[G2,a2];rfl, ?_⟩;have h':(128:Int)<=n:=by omega
   have Cr:128<=n:=by omega
   have ho:=at2 n;have hf:((n:Int)).fdiv 128=((n/128:Nat):Int):=by rw[abl _ (by decide)];omega
   have n1:=ZA (UInt8.ofNat (n %128+128));have tk:∀t,aT t (.cT [])=(.cT [],t):=fun _=>rfl;generalize hc:UInt8.ofNat (n %128+128)=c at*;have eo:bH .or .u8 (IntKind.wrap .u8 (n:Int)) .u8 128=some (.int .u8 (c.toNat:Int)):=by simp only[bH,ne_eq,not_true_eq_false,if_false];rw[ho]
   rw[aj,ak ja.eq_1];simp at a3;simp[-bH,Hv,ape,h',eo,bN,aB,cg,bB,na,n1,hr,tk,hf,IntKind.bits];rw[ae ja.eq_1];simp[a3]
theorem dR{S:St}{j:Nat}{aW:bq}(hS:S[j]? =some (ej j aW))(n:Nat)(hn:n<18446744073709551616)(hl:aW.length+10<=1073741824):DF ax nk 48 [.ptr j 0,.int .u64 (n:Int)] S=some (.cT [],S.set j (ej j (aW++bI n))):=by
 have h10:=eN hn;obtain⟨pre,n',a1,a2,a3⟩:=Rv (j:=j) (nb:=S.length) (n+1) n aW S (by omega) hn hS (by omega);have hl2:pre.length+1<=10:=by rw[a2]at h10;simpa using h10
 have hr:=iG (Jm (o':=aW++pre) hS) [UInt8.ofNat n'] (by simp;omega);have hw:IntKind.wrap .u8 (n':Int)=(((UInt8.ofNat n').toNat:Nat):Int):=by show(n':Int)%256=_;rw[yA];omega
 have htk:∀b,(S.set j b).take S.length=S.set j b:=fun b=>gO (by simp);have n1:=ZA (UInt8.ofNat n');have tk:∀t,aT t (.cT [])=(.cT [],t):=fun _=>rfl;generalize UInt8.ofNat n'=c at*;rw[EO,ak p_.eq_1,a2];simp at hr;simp[a3,hw,bN,aB,cg,bB,na,n1,hr,tk,htk,cC,ay,bA,aw]
theorem UM{S:St}{j:Nat}{aW:bq}(hS:S[j]? =some (ej j aW))(b:bq)(hl:aW.length+b.length+10<=1073741824):DF ax nk 179 [.ptr j 0,bO b] S=some (.cT [],S.set j (ej j (aW++aM b))):=by
 have h1:=dR hS b.length (by omega) (by omega);have h10:=eN (n:=b.length) (by omega);have h2:=iG (Jm (o':=aW++bI b.length) hS) b (by simp;omega);have htk:∀b,(S.set j b).take S.length=S.set j b:=fun b=>gO (by simp);have tk:∀t,aT t (.cT [])=(.cT [],t):=fun _=>rfl;have hw:IntKind.wrap .u64 (b.length:Int)=(b.length:Int):=by show(b.length:Int)%18446744073709551616=_;omega
 rw[GR,ak rG.eq_1];simp at h2;simp[h1,h2,hw,tk,htk,cC,ay,bA,aw,aM]
theorem kC{S:St}{j:Nat}{aW:bq}(hS:S[j]? =some (ej j aW))(b:bq)(hl:aW.length+b.length+10<=1073741824):DF ax nk 147 [.ptr j 0,.str b] S=some (.cT [],S.set j (ej j (aW++aM b))):=by
 have h1:=UM hS b hl;have htk:∀b,(S.set j b).take S.length=S.set j b:=fun b=>gO (by simp);have tk:∀t,aT t (.cT [])=(.cT [],t):=fun _=>rfl;have b1:aaB (.str b)=some (.sl .none 1 (bW b)):=by unfold aaB;simp only;rw[if_pos (by omega)];rfl
 have b2:∀S,bN S (.sl .none 1 (bW b))=some (.sl .none 1 (bW b)):=fun _=>rfl;have b3:norm (.sl .none 1 (bW b))=bO b:=by cases b<;>rfl
 have b4:∀S,cg S (.sl .none 1 (bW b))=S:=fun _=>rfl;have b5:∀S S',bB S S' (.sl .none 1 (bW b))=S':=fun _ _=>rfl;rw[Jd,ak sH.eq_1];simp[b1,b2,b3,b4,b5,h1,tk,htk,cC,ay,bA,aw]
theorem Wq{S:St}{j:Nat}{aW:bq}(hS:S[j]? =some (ej j aW))(b:Bool)(hl:aW.length+10<=1073741824):DF ax nk 176 [.ptr j 0,.bool b] S=some (.cT [],S.set j (ej j (aW++[if b=true then 1 else 0]))):=by
 have htk:∀b,(S.set j b).take S.length=S.set j b:=fun b=>gO (by simp);have tk:∀t,aT t (.cT [])=(.cT [],t):=fun _=>rfl;rw[Jh,ak sM.eq_1];cases b
 ·have hr:=iG hS [0] (by simp;omega)
  have n1:norm (.sl .exact 1 [[AV.int .u8 0]])=bO [0]:=rfl;simp[bN,aB,cg,bB,na,n1,hr,tk,htk,cC,ay,bA,aw]
 ·have hr:=iG hS [1] (by simp;omega)
  have n1:norm (.sl .exact 1 [[AV.int .u8 1]])=bO [1]:=rfl;simp[bN,aB,cg,bB,na,n1,hr,tk,htk,cC,ay,bA,aw]
theorem xor_zero(x:Nat)(h:x<18446744073709551616):bH .xor .u64 (x:Int) .u64 0=some (.int .u64 (x:Int)):=by
 have hh:bH .xor .u64 (x:Int) .u64 0=some (.int .u64 (IntKind.wrap .u64 ((BitVec.ofInt 64 (x:Int)^^^BitVec.ofInt 64 0:BitVec 64).toNat:Int))):=by simp only[bH,ne_eq,not_true_eq_false,if_false];rfl
 rw[hh];have e:(BitVec.ofInt 64 (x:Int)^^^BitVec.ofInt 64 0:BitVec 64).toNat=x:=by simp;omega
 rw[e];congr 2;show(x:Int)%18446744073709551616=_;omega
theorem ajv(x:Nat)(h:x<18446744073709551616):bH .xor .u64 (x:Int) .u64 18446744073709551615=some (.int .u64 ((18446744073709551615 -x:Nat):Int)):=by
 have hh:bH .xor .u64 (x:Int) .u64 18446744073709551615=some (.int .u64 (IntKind.wrap .u64 ((BitVec.ofInt 64 (x:Int)^^^BitVec.ofInt 64 18446744073709551615:BitVec 64).toNat:Int))):=by simp only[bH,ne_eq,not_true_eq_false,if_false];rfl
 rw[hh];have e0:BitVec.ofInt 64 18446744073709551615=BitVec.allOnes 64:=by decide
 have e:(BitVec.ofInt 64 (x:Int)^^^BitVec.ofInt 64 18446744073709551615).toNat=18446744073709551615 -x:=by rw[e0,BitVec.xor_allOnes,BitVec.toNat_not,Ty];simp;omega
 rw[e];congr 2;show((18446744073709551615 -x:Nat):Int)%18446744073709551616=_;omega
theorem ZC{S:St}{j:Nat}{aW:bq}(hS:S[j]? =some (ej j aW))(n:Int)(h0: -9223372036854775808<=n)(h1:n<9223372036854775808)(hl:aW.length+10<=1073741824):DF ax nk 177 [.ptr j 0,.int .i64 n] S=some (.cT [],S.set j (ej j (aW++wa n))):=by
 have htk:∀b,(S.set j b).take S.length=S.set j b:=fun b=>gO (by simp);have tk:∀t,aT t (.cT [])=(.cT [],t):=fun _=>rfl;rw[Kv,ak ud.eq_1];by_cases hn:n<0
 ·have hf:=dR hS (2*(-(n+1)).toNat+1) (by omega) hl
  have e1:IntKind.wrap .u64 n=n+18446744073709551616:=by show n %18446744073709551616=_;omega
  have e2:bH .shl .u64 (n+18446744073709551616) .u64 1=some (.int .u64 ((2*n+18446744073709551616).toNat:Int)):=by simp only[bH,IntKind.bits];rw[if_neg (by decide)];congr 2;show((n+18446744073709551616)*2)%18446744073709551616=_;omega
  have e3:bH .shr .i64 n .u64 63=some (.int .i64 (-1)):=by simp only[bH,IntKind.bits];rw[if_neg (by decide)];congr 2;rw[abl _ (by decide)];show n/9223372036854775808=_;omega
  have e4:IntKind.wrap .u64 (-1)=18446744073709551615:=by decide
  have e5:=ajv ((2*n+18446744073709551616).toNat) (by omega);have e6:18446744073709551615 -(2*n+18446744073709551616).toNat=2*(-(n+1)).toNat+1:=by omega
  rw[e6]at e5;have ei:wa n=bI (2*(-(n+1)).toNat+1):=by unfold wa;rw[if_pos hn]
  generalize 2*(-(n+1)).toNat+1=m at*;generalize(2*n+18446744073709551616).toNat=k at*;simp[-bH,e1,e2,e3,e4,e5,hf,ei,tk,htk,cC,ay,bA,aw]
 ·have hf:=dR hS (2*n.toNat) (by omega) hl
  have e1:IntKind.wrap .u64 n=n:=by show n %18446744073709551616=_;omega
  have e2:bH .shl .u64 n .u64 1=some (.int .u64 ((2*n.toNat:Nat):Int)):=by simp only[bH,IntKind.bits];rw[if_neg (by decide)];congr 2;show(n*2)%18446744073709551616=_;omega
  have e3:bH .shr .i64 n .u64 63=some (.int .i64 0):=by simp only[bH,IntKind.bits];rw[if_neg (by decide)];congr 2;rw[abl _ (by decide)];show n/9223372036854775808=_;omega
  have e4:IntKind.wrap .u64 0=0:=by decide
  have e5:=xor_zero (2*n.toNat) (by omega);have ei:wa n=bI (2*n.toNat):=by unfold wa;rw[if_neg hn]
  generalize 2*n.toNat=m at*;simp[-bH,e1,e2,e3,e4,e5,hf,ei,tk,htk,cC,ay,bA,aw]
theorem qB{S:St}{j:Nat}{aW:bq}(hS:S[j]? =some (ej j aW))(hl:aW.length<=1073741824):DF ax nk 51 [.ptr j 0] S=some (if aW=[]then .ah else .sl .fresh 1 (bW aW),S):=by
 rw[Kr,ak tX.eq_1];have Od:aY S .cell (.ptr j 0)=some (bk j 0 1 (bW aW)):=by rw[bd hS];rfl
 by_cases ho:aW=[]
 ·subst ho
  have e:cb 1 [] S .ah (bk j 0 1 (bW []))=some (.ah,[],S):=rfl;simp[Od,e,dh,bu,bD,a9,aw,aS]
 ·have Vq:¬bW aW=[]:=fun e=>ho ((kN _).1 e)
  have hp:ct (bW aW)=true:=df aW;have e:cb 1 [] S .ah (bk j 0 1 (bW aW))=some (.sl (.fr 0) 1 (bW aW),[some aW.length],S):=by simp[cb,bk,Vq,bL,hl,ho]
  have g:=vg [some aW.length] 0 1 (bW aW) (by simp);simp[Od,e,dh,g,ho,hp]
theorem N7(S:St)(j:Nat)(a b:cF):(S.set j a).set j b=S.set j b:=Hu ..
theorem mn{S:St}{j:Nat}{o:bq}(hS:S[j]? =some (ej j o))(o':bq)(l:List cF):(S.set j (ej j o')++l)[j]? =some (ej j o'):=cd l (Jm hS)
theorem eV{S:St}{j:Nat}(hj:j<S.length)(a b:cF)(l:List cF):(S.set j a++l).set j b=S.set j b++l:=by rw[dL l (by simpa using hj),Hu]
theorem b8(t:List (Option Nat)):aT t (.cT [])=(.cT [],t):=rfl
theorem PU{S:St}{m:Nat}{cs:List AV}{bt:List (Option Nat)}{q:Bool}(hm:S[m]? =some (.mem cs bt q))(l:List cF)(sh:Sh)(off:Nat):aY (S++l) sh (.ptr m off)=fC sh cs off:=bd (aa:=bt) (l:=q) (cd l hm) sh off
theorem ZN{S:St}(cs:List AV)(bt:List (Option Nat))(q:Bool)(sh:Sh)(off:Nat):aY (S++[.mem cs bt q]) sh (.ptr S.length off)=fC sh cs off:=by rw[gQ];rfl
theorem AS{S:St}(j:Nat)(b:cF)(cs:List AV)(bt:List (Option Nat))(q:Bool)(sh:Sh)(off:Nat):aY (S.set j b++[.mem cs bt q]) sh (.ptr S.length off)=fC sh cs off:=by have:=ZN (S:=S.set j b) cs bt q sh off;rwa [LW]at this
def aX.b_(v:aX)(i:Nat):bq:=if v.kind=5 then aX.dt (v.aU.drop i) (v.parts.drop i)else aX.jI (v.ids.drop i) (v.parts.drop i)
theorem Ww(v:aX)(hv:v.Of)(j m nb:Nat)(QU:j≠m)(h5:v.kind=5->v.parts.length=v.aU.length)(h6:v.kind≠5->v.parts.length=v.ids.length)
 (hF:∀x∈v.parts,∀(S:St)(aW:bq),S[j]? =some (ej j aW)->aW.length+x.bytes.length+100<=1073741824->DF ax nk 144 [.ptr j 0,.agg x.ai] S=some (.cT [],S.set j (ej j (aW++x.bytes)))):
 ∀d i(T:St)(aW:bq),i+d=v.parts.length->T[j]? =some (ej j aW)->T[m]? =some (.mem v.ai [] false)->aW.length+(v.b_ i).length+100<=1073741824->
 ∃G,DC ax nk (.loop dA) ⟨[(0,.ptr j 0),(3,.ptr m 0),(40,lU v.parts),(41,.int .i64 v.parts.length),(42,.int .i64 (i:Nat))],[],nb⟩ T=some (.exit 1,⟨[],[],nb⟩,T.set j (ej j (aW++v.b_ i))++G):=by
 have hl:=hv.parts;intro d;induction d with
 |zero=>
  intro i T aW hi hT hm hb;refine⟨[], ?_⟩;rw[aj,ak dA.eq_1];have K9:¬i<v.parts.length:=by omega
  have e3:v.parts.drop i=[]:=dV (by omega);have er:v.b_ i=[]:=by unfold aX.b_;rw[e3];split<;>simp[aX.dt,aX.jI]
  have ss:T.set j (ej j (aW++[]))=T:=by rw[kH];obtain⟨a,e⟩:=fI.1 hT;rw[<-e,Qg]
  rw[er,ss];simp[K9]
 |succ d ih=>
  intro i T aW hi hT hm hb;have h3:i<v.parts.length:=by omega
  have hj:j<T.length:=(fI.1 hT).1;obtain⟨y,hy,gg⟩:=aE (l:=v.parts) (i:=i) (by omega);have hw:=aV (i:=i) (by omega);have vG:aL ab 0 y.ai=y.ai:=bX (by simp[ab]);have hT1:(T++[.mem y.ai [] false])[j]? =some (ej j aW):=cd _ hT;have l0:=PU hm [.mem y.ai [] false] .cell 0;have l3:=PU hm [.mem y.ai [] false] .cell 3;have l4:=PU hm [.mem y.ai [] false] .cell 4;simp at l0 l3 l4;by_cases k5:v.kind=5
  ·obtain⟨a,ha,JY⟩:=aE (l:=v.aU) (i:=i) (by have:=h5 k5;omega)
   have er:v.b_ i=aM a++(y.bytes++v.b_ (i+1)):=by unfold aX.b_;rw[if_pos k5,if_pos k5,aJ ha,aJ hy,aX.dt]
   have lb:(aM a).length+(y.bytes.length+(v.b_ (i+1)).length)=(v.b_ i).length:=by rw[er];simp
   have la:a.length<=(aM a).length:=by unfold aM;simp
   have c1:=kC hT1 a (by omega);rw[dL _ hj]at c1;have c2:=hF y (eT hy) _ _ (mn hT (aW++aM a) [.mem y.ai [] false]) (by simp;omega);rw[eV hj]at c2;have c3:=AS j (ej j (aW++aM a)) y.ai [] false (.agg 6) 0 (S:=T);simp only[aX.all]at c3;obtain⟨G,hn⟩:=ih (i+1) (T.set j (ej j (aW++aM a++y.bytes))++[.mem y.ai [] false]) (aW++aM a++y.bytes) (by omega) (mn hT _ _) (cd _ (by rw[lG QU];exact hm)) (by simp;omega);rw[eV hj]at hn;refine⟨.mem y.ai [] false::G, ?_⟩;rw[er];rw[aj,ak dA.eq_1];simp at hw hn c2;simp[h3,gg,vG,l0,l3,k5,ha,c1,c2,c3,b8];rw[ae dA.eq_1];simp[hw,hn]
  ·obtain⟨a,ha,JY⟩:=aE (l:=v.ids) (i:=i) (by have:=h6 k5;omega)
   have hr:=hv.id a (eT ha);have er:v.b_ i=bI a.toNat++(y.bytes++v.b_ (i+1)):=by unfold aX.b_;rw[if_neg k5,if_neg k5,aJ ha,aJ hy,aX.jI]
   have lb:(bI a.toNat).length+(y.bytes.length+(v.b_ (i+1)).length)=(v.b_ i).length:=by rw[er];simp
   have c1:=dR hT1 a.toNat (by omega) (by omega);have ea:((a.toNat:Nat):Int)=a:=by omega
   rw[dL _ hj,ea]at c1;have c2:=hF y (eT hy) _ _ (mn hT (aW++bI a.toNat) [.mem y.ai [] false]) (by simp;omega);rw[eV hj]at c2;have c3:=AS j (ej j (aW++bI a.toNat)) y.ai [] false (.agg 6) 0 (S:=T);simp only[aX.all]at c3;obtain⟨G,hn⟩:=ih (i+1) (T.set j (ej j (aW++bI a.toNat++y.bytes))++[.mem y.ai [] false]) (aW++bI a.toNat++y.bytes) (by omega) (mn hT _ _) (cd _ (by rw[lG QU];exact hm)) (by simp;omega);rw[eV hj]at hn;refine⟨.mem y.ai [] false::G, ?_⟩;rw[er];rw[aj,ak dA.eq_1];simp at hw hn c2;simp[h3,gg,vG,l0,l4,k5,ha,c1,c2,c3,b8];rw[ae dA.eq_1];simp[hw,hn]
theorem Wx:∀(d:Nat)(v:aX),v.Wf->v.aR d=true->∀(S:St)(j:Nat)(aW:bq),S[j]? =some (ej j aW)->aW.length+v.bytes.length+100<=1073741824->DF ax nk 144 [.ptr j 0,.agg v.ai] S=some (.cT [],S.set j (ej j (aW++v.bytes))):=by
 intro d;induction d with
 |zero=>intro v _ h;simp[aX.aR]at h
 |succ d ih=>
  intro v hv h S j aW hS hb;have R:=aX.fa h;have hj:j<S.length:=(fI.1 hS).1;have RT:(S++[.mem v.ai [] false])[j]? =some (ej j aW):=cd _ hS;have hm:(S++[.mem v.ai [] false])[S.length]? =some (.mem v.ai [] false):=by simp
  have lb:=v.lS;have c1:=rS RT (UInt8.ofNat v.kind.toNat) (by omega);rw[dL _ hj]at c1;have ld:=fun o sh off=>AS (S:=S) j (ej j o) v.ai [] false sh off;have l0:=ld (aW++[UInt8.ofNat v.kind.toNat]) .cell 0;have l1:=ld (aW++[UInt8.ofNat v.kind.toNat]) .cell 1;have l2:=ld (aW++[UInt8.ofNat v.kind.toNat]) .cell 2;have l5:=fun o=>ld o .cell 5;simp at l0 l1 l2 l5;have hlp:=Ww v hv.one j S.length S.length (by omega);have xv:∀b G,(S.set j b++G).take S.length=S.set j b:=fun b G=>by rw[ob (by simp),gO (by simp)]
  have S1:(S.set j (ej j (aW++[UInt8.ofNat v.kind.toNat]))++[.mem v.ai [] false])[j]? =some (ej j (aW++[UInt8.ofNat v.kind.toNat])):=mn hS _ _;have ke:∀c,v.kind=c->UInt8.ofNat v.kind.toNat=UInt8.ofNat c.toNat:=fun c e=>by rw[e]
  have m2:∀o,(S.set j (ej j o)++[.mem v.ai [] false])[S.length]? =some (.mem v.ai [] false):=fun o=>by
   have:S.length=(S.set j (ej j o)).length:=by simp
   rw[this];simp
  rw[Rm,ak B8.eq_1];have afF:v.parts=[]->∀o,∃G,DC ax nk (.loop dA) ⟨[(0,.ptr j 0),(3,.ptr S.length 0),(40,lU []),(41,.int .i64 0),(42,.int .i64 0)],[],S.length⟩ (S.set j (ej j o)++[.mem v.ai [] false])=some (.exit 1,⟨[],[],S.length⟩,S.set j (ej j o)++G):=by intro hp o;refine⟨[.mem v.ai [] false], ?_⟩;rw[aj,ak dA.eq_1];simp
  rcases R.kind with k|k|k|k|k|k
  ·obtain⟨_,_,hp⟩:=R.bare (by omega) (by omega)
   have hn:=R.n1 k;have eb:v.bytes=[UInt8.ofNat v.kind.toNat,if decide (v.n=1)=true then 1 else 0]:=by rw[lb,if_pos k];rcases hn with e|e<;>rw[e]<;>rfl
   have c2:=Wq S1 (decide (v.n=1)) (by simp;rw[eb]at hb;simp at hb;omega);rw[eV hj]at c2;obtain⟨G,e⟩:=afF hp (aW++[UInt8.ofNat v.kind.toNat]++[if decide (v.n=1)=true then 1 else 0]);have wk:IntKind.wrap .u8 1=(((UInt8.ofNat v.kind.toNat).toNat:Nat):Int):=by rw[k];rfl
   rw[eb];generalize UInt8.ofNat v.kind.toNat=u at*;simp at c2 e;simp[wk,c1,l0,l1,k,c2,l5,hp,b8];rw[ae dA.eq_1];simp[e,xv,cC,ay,bA,aw]
  ·obtain⟨_,_,hp⟩:=R.bare (by omega) (by omega)
   have eb:v.bytes=UInt8.ofNat v.kind.toNat::wa v.n:=by rw[lb,if_neg (by omega),if_pos k]
   have c2:=ZC S1 v.n hv.one.n0 hv.one.n1 (by simp;rw[eb]at hb;simp at hb;omega);rw[eV hj]at c2;obtain⟨G,e⟩:=afF hp (aW++[UInt8.ofNat v.kind.toNat]++wa v.n);have wk:IntKind.wrap .u8 2=(((UInt8.ofNat v.kind.toNat).toNat:Nat):Int):=by rw[k];rfl
   rw[eb];generalize UInt8.ofNat v.kind.toNat=u at*;simp at c2 e;simp[wk,c1,l0,l1,k,c2,l5,hp,b8];rw[ae dA.eq_1];simp[e,xv,cC,ay,bA,aw]
  ·obtain⟨_,_,hp⟩:=R.bare (by omega) (by omega)
   have eb:v.bytes=UInt8.ofNat v.kind.toNat::aM v.s:=by rw[lb,if_neg (by omega),if_neg (by omega),if_pos (.inl k)]
   have hs:=R.s3 k;have c2:=kC S1 v.s (by simp;rw[eb]at hb;simp at hb;omega);rw[eV hj]at c2;obtain⟨G,e⟩:=afF hp (aW++[UInt8.ofNat v.kind.toNat]++aM v.s);have wk:IntKind.wrap .u8 3=(((UInt8.ofNat v.kind.toNat).toNat:Nat):Int):=by rw[k];rfl
   rw[eb];generalize UInt8.ofNat v.kind.toNat=u at*;simp at c2 e;simp[wk,c1,l0,l2,k,c2,l5,hp,b8];rw[ae dA.eq_1];simp[e,xv,cC,ay,bA,aw]
  ·obtain⟨_,_,hp⟩:=R.bare (by omega) (by omega)
   have eb:v.bytes=UInt8.ofNat v.kind.toNat::aM v.s:=by rw[lb,if_neg (by omega),if_neg (by omega),if_pos (.inr k)]
   have hs:=fN (R.s4 k);have c2:=kC S1 v.s (by simp;rw[eb]at hb;simp at hb;omega);rw[eV hj]at c2;obtain⟨G,e⟩:=afF hp (aW++[UInt8.ofNat v.kind.toNat]++aM v.s);have wk:IntKind.wrap .u8 4=(((UInt8.ofNat v.kind.toNat).toNat:Nat):Int):=by rw[k];rfl
   rw[eb];generalize UInt8.ofNat v.kind.toNat=u at*;simp at c2 e;simp[wk,c1,l0,l2,k,c2,l5,hp,b8];rw[ae dA.eq_1];simp[e,xv,cC,ay,bA,aw]
  ·have h5:=R.k5 k
   have er:v.b_ 0=aX.dt v.aU v.parts:=by unfold aX.b_;rw[if_pos k];rfl
   have eb:v.bytes=UInt8.ofNat v.kind.toNat::(bI v.parts.length++v.b_ 0):=by rw[lb,if_neg (by omega),if_neg (by omega),if_neg (by omega),if_pos k,er]
   rw[eb]at hb;simp at hb;have c2:=dR S1 v.parts.length (by omega) (by simp;omega);rw[eV hj]at c2;obtain⟨G,e⟩:=hlp (fun _=>h5.2.1) (fun g=>absurd k g) (fun x hx S aW h1 h2=>ih x (hv.all x hx) (R.all x hx) S j aW h1 h2) v.parts.length 0 _ _ (by omega) (mn hS (aW++[UInt8.ofNat v.kind.toNat]++bI v.parts.length) [.mem v.ai [] false]) (m2 _) (by simp;omega);rw[eV hj]at e;have wk:IntKind.wrap .u8 5=(((UInt8.ofNat v.kind.toNat).toNat:Nat):Int):=by rw[k];rfl
   have wl:IntKind.wrap .u64 (v.parts.length:Int)=(v.parts.length:Int):=by show(v.parts.length:Int)%18446744073709551616=_;omega
   rw[eb];generalize UInt8.ofNat v.kind.toNat=u at*;simp at c2 e;simp[wk,wl,c1,l0,k,c2,l5,b8];rw[ae dA.eq_1];simp[e,xv,cC,ay,bA,aw]
  ·have h6:=R.k6 k
   have er:v.b_ 0=aX.jI v.ids v.parts:=by unfold aX.b_;rw[if_neg (by omega)];rfl
   have eb:v.bytes=UInt8.ofNat v.kind.toNat::(bI v.parts.length++v.b_ 0):=by rw[lb,if_neg (by omega),if_neg (by omega),if_neg (by omega),if_neg (by omega),er]
   rw[eb]at hb;simp at hb;have c2:=dR S1 v.parts.length (by omega) (by simp;omega);rw[eV hj]at c2;obtain⟨G,e⟩:=hlp (fun g=>by omega) (fun _=>h6.2.1) (fun x hx S aW h1 h2=>ih x (hv.all x hx) (R.all x hx) S j aW h1 h2) v.parts.length 0 _ _ (by omega) (mn hS (aW++[UInt8.ofNat v.kind.toNat]++bI v.parts.length) [.mem v.ai [] false]) (m2 _) (by simp;omega);rw[eV hj]at e;have wk:IntKind.wrap .u8 6=(((UInt8.ofNat v.kind.toNat).toNat:Nat):Int):=by rw[k];rfl
   have wl:IntKind.wrap .u64 (v.parts.length:Int)=(v.parts.length:Int):=by show(v.parts.length:Int)%18446744073709551616=_;omega
   rw[eb];generalize UInt8.ofNat v.kind.toNat=u at*;simp at c2 e;simp[wk,wl,c1,l0,k,c2,l5,b8];rw[ae dA.eq_1];simp[e,xv,cC,ay,bA,aw]
theorem iM{s:bq}{m:Nat}(h:s.length<=m)(hm:m<=1000):(aM s).length<=10+m:=by have:=eN (n:=s.length) (by omega);unfold aM;rw[gP];omega
theorem aeU{n:Int}(h0: -9223372036854775808<=n)(h1:n<9223372036854775808):(wa n).length<=10:=by
 unfold wa;split;·exact eN (by omega)
 ·exact eN (by omega)
theorem aX.Hw{d:Nat}{v:aX}(hv:v.Wf)(h:v.aR d=true)(hk:v.kind<=4):v.bytes.length<=100:=by
 cases d with
 |zero=>simp[aX.aR]at h
 |succ d=>
  have R:=aX.fa h;rw[aX.lS];rcases R.kind with k|k|k|k|k|k;·rw[if_pos k];simp
  ·have:=aeU hv.one.n0 hv.one.n1
   rw[if_neg (by omega),if_pos k];simp;omega
  ·have:=iM (R.s3 k) (by omega)
   rw[if_neg (by omega),if_neg (by omega),if_pos (.inl k)];simp;omega
  ·have:=iM (fN (R.s4 k)) (by omega)
   rw[if_neg (by omega),if_neg (by omega),if_pos (.inr k)];simp;omega
  ·omega
  ·omega
theorem CP(B:Nat):∀(ns:List bq)(ps:List aX),(∀n∈ns,n.length<=12)->(∀p∈ps,p.bytes.length<=B)->(aX.dt ns ps).length<=ns.length*(22+B)
 |[],ps,_,_=>by simp[aX.dt]
 |n::ns,[],_,_=>by simp[aX.dt]
 |n::ns,p::ps,h1,h2=>by have:=CP B ns ps (fun x hx=>h1 x (by simp[hx])) (fun x hx=>h2 x (by simp[hx]));have a:=iM (h1 n (by simp)) (by omega);have b:=h2 p (by simp);rw[aX.dt];simp only[gP,jC,Hs];omega
theorem Xm(B:Nat):∀(is:List Int)(ps:List aX),(∀n∈is,0<=n/\n<18446744073709551616)->(∀p∈ps,p.bytes.length<=B)->(aX.jI is ps).length<=is.length*(10+B)
 |[],ps,_,_=>by simp[aX.jI]
 |n::ns,[],_,_=>by simp[aX.jI]
 |n::ns,p::ps,h1,h2=>by have:=Xm B ns ps (fun x hx=>h1 x (by simp[hx])) (fun x hx=>h2 x (by simp[hx]));have a:=eN (n:=n.toNat) (by have:=h1 n (by simp);omega);have b:=h2 p (by simp);rw[aX.jI];simp only[gP,jC,Hs];omega
theorem aX.rR:∀(d:Nat)(v:aX),v.Wf->v.aR d=true->v.bytes.length<=200*13^d:=by
 intro d;induction d with
 |zero=>intro v _ h;simp[aX.aR]at h
 |succ d ih=>
  intro v hv h;have R:=aX.fa h;have hp:1<=13^d:=Nat.one_le_pow _ _ (by decide);rw[Fv];by_cases hk:v.kind<=4
  ·have:=aX.Hw hv h hk
   omega
  ·have nX:∀p∈v.parts,p.bytes.length<=200*13^d:=fun p hp=>ih p (hv.all p hp) (R.all p hp)
   rw[aX.lS,if_neg (by omega),if_neg (by omega),if_neg (by omega)];by_cases k5:v.kind=5
   ·have h5:=R.k5 k5
    have a:=CP _ v.aU v.parts (fun n hn=>fN (CN _ _ h5.2.2.1 n hn)) nX;have b:=eN (n:=v.parts.length) (by omega);have c:v.aU.length*(22+200*13^d)<=8*(22+200*13^d):=uN _ h5.2.2.2;rw[if_pos k5];simp only[jC,gP];omega
   ·have k6:v.kind=6:=by have:=R.kind;omega
    have h6:=R.k6 k6;have a:=Xm _ v.ids v.parts hv.one.id nX;have b:=eN (n:=v.parts.length) (by omega);have c:v.ids.length*(10+200*13^d)<=12*(10+200*13^d):=uN _ h6.2.2.2;rw[if_neg k5];simp only[jC,gP];omega
theorem aX.kZ{v:aX}(hv:v.Wf)(h:v.aR 5=true):v.bytes.length<=74258600:=by
 have:=aX.rR 5 v hv h;have e:200*13^5=74258600:=by decide
 omega
theorem bj.CP(B:Nat):∀(ns:List bq)(ps:List bj),(∀n∈ns,n.length<=12)->(∀p∈ps,p.bytes.length<=B)->(bj.dt ns ps).length<=ns.length*(22+B)
 |[],ps,_,_=>by simp[bj.dt]
 |n::ns,[],_,_=>by simp[bj.dt]
 |n::ns,p::ps,h1,h2=>by have:=bj.CP B ns ps (fun x hx=>h1 x (by simp[hx])) (fun x hx=>h2 x (by simp[hx]));have a:=iM (h1 n (by simp)) (by omega);have b:=h2 p (by simp);rw[bj.dt];simp only[gP,jC,Hs];omega
theorem aeV:∀(ns:List bq),(∀n∈ns,n.length<=12)->(ns.flatMap aM).length<=ns.length*22
 |[],_=>by simp
 |n::ns,h1=>by have:=aeV ns (fun x hx=>h1 x (by simp[hx]));have a:=iM (h1 n (by simp)) (by omega);simp only[z6,gP,jC,Hs];omega
theorem bj.rR:∀(d:Nat)(s:bj),s.aR d=true->s.bytes.length<=200*13^d:=by
 intro d;induction d with
 |zero=>intro v h;simp[bj.aR]at h
 |succ d ih=>
  intro s h;have R:=bj.fa h;have hp:1<=13^d:=Nat.one_le_pow _ _ (by decide);have nX:∀p∈s.parts,p.bytes.length<=200*13^d:=fun p hp=>ih p (R.all p hp);rw[Fv,bj.lS];rcases R.kind with k|k|k|k|k|k;·rw[if_neg (by omega),if_neg (by omega),if_neg (by omega),(R.k13 (.inl k)).2];simp[bj.eU];omega
  ·rw[if_neg (by omega),if_neg (by omega),if_neg (by omega),(R.k13 (.inr (.inl k))).2];simp[bj.eU];omega
  ·rw[if_neg (by omega),if_neg (by omega),if_neg (by omega),(R.k13 (.inr (.inr k))).2];simp[bj.eU];omega
  ·have h4:=R.k4 k
   have a:=aeV s.ar fun n hn=>fN (h4.2.2.1 n hn);have b:=eN (n:=s.ar.length) (by omega);rw[if_pos (.inl k),if_pos k];simp only[jC,gP];omega
  ·have h5:=R.k5 k
   have hg:=h5.1;have h8:=h5.2.1;have a:=bj.CP _ s.ar s.parts (fun n hn=>fN (CN _ _ hg n hn)) nX;have b:=eN (n:=s.ar.length) (by omega);have c:s.ar.length*(22+200*13^d)<=8*(22+200*13^d):=uN _ h8;rw[if_pos (.inr k),if_neg (by omega),if_pos k];simp only[jC,gP];omega
  ·have h6:=R.k6 k
   rw[if_neg (by omega),if_neg (by omega),if_neg (by omega)];match hs:s.parts,h6.2 with
   |[t],_=>
    have:=nX t (by rw[hs];simp);simp[bj.eU];omega
theorem bj.kZ{s:bj}(h:s.aR 5=true):s.bytes.length<=74258600:=by
 have:=bj.rR 5 s h;have e:200*13^5=74258600:=by decide
 omega
theorem zM{v:aX}(hv:v.Wf)(h:iF v=true):v.bytes.length<=100:=by unfold iF at h;simp only[dk,decide_eq_true_eq]at h;exact aX.Hw hv h.1 h.2
theorem aeW{v:aX}{t:bj}(hv:v.Wf)(h:ni v t=true)(ht:t.kind<=4):v.bytes.length<=100:=by
 unfold ni at h;simp only[dk]at h;have hk:v.kind=t.kind:=by have:=h.2;cases v;rw[aX.tQ]at this;simp only[dk,decide_eq_true_eq]at this;exact this.1
 exact aX.Hw hv h.1.1 (by omega)
theorem Hx(t:bj)(ht:t.kind<=4):∀(ps:List dQ),(∀p∈ps,p.x.Wf/\p.y.Wf)->ps.all (uP t)=true->(ps.flatMap j8).length<=ps.length*200
 |[],_,_=>by simp
 |p::ps,hw,h=>by simp only[TF,dk]at h;have:=Hx t ht ps (fun x hx=>hw x (by simp[hx])) h.2;have hp:=h.1;unfold uP at hp;simp only[dk]at hp;have a:=zM (hw p (by simp)).1 hp.1;have b:=aeW (hw p (by simp)).2 hp.2 ht;simp only[z6,j8,gP,jC,Hs];omega
def acu(s:bq):AV:=if s=[]then .ah else .sl .fresh 1 (bW s)
def A0(c:Nat):AV:=if c=0 then .bP else .iL 62 (.int .i64 (c:Int))
theorem sc{s:bq}(h:s≠[]):acu s=.sl .fresh 1 (bW s):=by unfold acu;rw[if_neg h]
theorem So{s:bq}(h:s≠[]):aT [] (acu s)=(.sl (.fr 0) 1 (bW s),[some s.length]):=by rw[sc h];show(AV.sl (.fr 0) 1 (bW s),[some (bW s).length])=_;rw[lR]
theorem HR(s:bq):aT [] (.sl .fresh 1 (bW s))=(.sl (.fr 0) 1 (bW s),[some s.length]):=by show(AV.sl (.fr 0) 1 (bW s),[some (bW s).length])=_;rw[lR]
theorem Sp(s:bq):a9 [some s.length] (.sl (.fr 0) 1 (bW s))=(.sl .fresh 1 (bW s),[none]):=by have:=vg [some s.length] 0 1 (bW s) (by simp);simpa using this
theorem ax7(c:Int):ac4 62 (.int .i64 c)=some (.iL 62 (.int .i64 c)):=rfl
theorem aX.gp(v:aX):v.bytes≠[]:=by rw[aX.lS];simp
theorem bj.gp(v:bj):v.bytes≠[]:=by rw[bj.lS];simp
def xJ(ok:Bool)(s:bq):AV:=if ok=true then(if 4096<s.length then .cT [.ah,A0 3]else .cT [acu s,.bP])else .cT [.ah,A0 1]
theorem uA(v:aX)(hv:v.Wf)(S:St):DF ax nk 93 [.agg v.ai] S=some (xJ (v.aR 5) v.bytes,S):=by
 have h1:=vM v hv (S++[.mem v.ai [] false]);have e1:A0 1=.iL 62 (.int .i64 1):=rfl;have e3:A0 3=.iL 62 (.int .i64 3):=rfl;rw[Pk,ak Ak.eq_1];unfold xJ;cases hr:v.aR 5
 ·rw[hr]at h1
  simp[h1,e1,bF,cC,ay,bA,aw,aS,bD,a9,bu]
 ·rw[hr]at h1
  have hb:=aX.kZ hv hr;have XH:cF.mem [.ah] [] false=ej (S.length+1) []:=rfl;have hS:(S++[.mem v.ai [] false,ej (S.length+1) []])[S.length+1]? =some (ej (S.length+1) []):=by simp
  have c1:=Wx 5 v hv hr _ _ _ hS (by simp;omega);have ss:(S++[.mem v.ai [] false,ej (S.length+1) []]).set (S.length+1) (ej (S.length+1) ([]++v.bytes))=S++[.mem v.ai [] false,ej (S.length+1) v.bytes]:=by simp
  rw[ss]at c1;have hS2:(S++[.mem v.ai [] false,ej (S.length+1) v.bytes])[S.length+1]? =some (ej (S.length+1) v.bytes):=by simp
  have c2:=qB hS2 (by omega);have c3:=So v.gp;have c4:=sc v.gp;have c5:=Sp v.bytes;have hp:=df v.bytes;have c6:(if v.bytes=[]then AV.ah else AV.sl .fresh 1 (bW v.bytes))=acu v.bytes:=rfl;rw[c6]at c2;by_cases hl:4096<v.bytes.length
  ·have tC:((4096:Int)<(v.bytes.length:Int))=True:=eq_true (by omega)
   simp[h1,XH,c1,c2,c3,hl,tC,e3,b8,bF,gj,cC,ay,bA,aw,aS,bD,a9,bu]
  ·have tC:((4096:Int)<(v.bytes.length:Int))=False:=eq_false (by omega)
   simp[h1,XH,c1,c2,HR,hl,tC,c4,b8,bF,gj,cC,ay,bA,aw,aS,bD,hp,a9,bu]
theorem Z2(p:List dK)(hl:p.length<=8)(hs:∀s∈p,s.Wf)(hr:p.all rZ=true)(j nb:Nat):
 ∀d i(T:St)(aW:bq),i+d=p.length->T[j]? =some (ej j aW)->aW.length+((p.drop i).flatMap jX).length+100<=1073741824->
 ∃G,DC ax nk (.loop jO) ⟨[(0,.ptr j 0),(14,eD p),(15,.int .i64 p.length),(16,.int .i64 (i:Nat))],[],nb⟩ T=some (.exit 0,⟨[],[],nb⟩,T.set j (ej j (aW++(p.drop i).flatMap jX))++G):=by
 intro d;induction d with
 |zero=>
  intro i T aW hi hT hb;refine⟨[], ?_⟩;rw[aj,ak jO.eq_1];have K9:¬i<p.length:=by omega
  have e3:p.drop i=[]:=dV (by omega);have ss:T.set j (ej j (aW++[]))=T:=by rw[kH];obtain⟨a,e⟩:=fI.1 hT;rw[<-e,Qg]
  rw[e3,TC,ss];simp[K9]
 |succ d ih=>
  intro i T aW hi hT hb;have h3:i<p.length:=by omega
  have hj:j<T.length:=(fI.1 hT).1;obtain⟨y,hy,gg⟩:=aE (l:=p) (i:=i) (by omega);have hym:=eT hy;have hyr:rZ y=true:=j7.1 hr y hym;have hyw:=hs y hym;have hw:=aV (i:=i) (by omega);have vG:aL [AV.str [],AV.int .u64 0] 0 y.ai=y.ai:=rfl;have hT1:(T++[.mem y.ai [] false])[j]? =some (ej j aW):=cd _ hT;have e0:y.ai[0]? =some (.str y.name):=rfl;have e1:y.ai[1]? =some (.int .u64 y.id):=rfl;have l0:=ZN (S:=T) y.ai [] false .cell 0;simp only[pC,e0]at l0;rw[aJ hy,z6]at hb⊢;have lb:(jX y).length=(aM y.name).length+(if y.name=[]then bI y.id.toNat else[]).length:=by unfold jX;rw[gP]
  simp only[gP]at hb;have la:y.name.length<=(aM y.name).length:=by unfold aM;simp
  have c1:=kC hT1 y.name (by omega);rw[dL _ hj]at c1;have l0':=AS (S:=T) j (ej j (aW++aM y.name)) y.ai [] false .cell 0;have l1':=AS (S:=T) j (ej j (aW++aM y.name)) y.ai [] false .cell 1;simp only[pC,e0,e1]at l0' l1';by_cases hn:y.name=[]
  ·have es:jX y=aM y.name++bI y.id.toNat:=by unfold jX;rw[if_pos hn]
   rw[es]at hb⊢;simp only[gP]at hb;have c2:=dR (mn hT (aW++aM y.name) [.mem y.ai [] false]) y.id.toNat (by have:=hyw.id1;omega) (by simp;omega);have ea:((y.id.toNat:Nat):Int)=y.id:=by have:=hyw.id0;omega
   rw[eV hj,ea]at c2;obtain⟨G,MZ⟩:=ih (i+1) (T.set j (ej j (aW++aM y.name++bI y.id.toNat))++[.mem y.ai [] false]) (aW++aM y.name++bI y.id.toNat) (by omega) (mn hT _ _) (by simp only[gP];omega);rw[eV hj]at MZ;refine⟨.mem y.ai [] false::G, ?_⟩;rw[aj,ak jO.eq_1];rw[hn]at l0 l0' c1 c2 l1' MZ⊢;simp at hw MZ c2 c1 l0 l0' l1';simp[h3,gg,vG,l0,l0',l1',c1,c2,b8];rw[ae jO.eq_1];simp[hw,MZ]
  ·have es:jX y=aM y.name:=by unfold jX;rw[if_neg hn];simp
   have Cr:y.name.isEmpty=false:=by simpa using hn
   rw[es]at hb⊢;obtain⟨G,MZ⟩:=ih (i+1) (T.set j (ej j (aW++aM y.name))++[.mem y.ai [] false]) (aW++aM y.name) (by omega) (mn hT _ _) (by simp only[gP];omega);rw[eV hj]at MZ;refine⟨.mem y.ai [] false::G, ?_⟩;rw[aj,ak jO.eq_1];simp at hw MZ;simp[h3,gg,vG,l0,l0',Cr,c1,b8];rw[ae jO.eq_1];simp[hw,MZ]
theorem aki{s:dK}(hs:s.Wf)(h:rZ s=true):(jX s).length<=32:=by
 unfold jX;have:=eN (n:=s.id.toNat) (by have:=hs.id1;omega);rw[gP];unfold rZ at h;by_cases c:s.name=[]
 ·rw[if_pos c]
  have:=iM (s:=s.name) (m:=0) (by simp[c]) (by omega);omega
 ·rw[if_neg c]at h⊢
  simp only[dk]at h;have:=iM (fN h.2) (by omega);simp;omega
theorem E_:∀(p:List dK),(∀s∈p,s.Wf)->p.all rZ=true->(p.flatMap jX).length<=p.length*32
 |[],_,_=>by simp
 |s::p,hs,h=>by simp only[TF,dk]at h;have:=E_ p (fun x hx=>hs x (by simp[hx])) h.2;have:=aki (hs s (by simp)) h.1;simp only[z6,gP,jC,Hs];omega
theorem UO{p:List dK}(hs:∀s∈p,s.Wf)(h:zf p=true):(kB p).length<=300:=by unfold zf at h;simp only[dk,decide_eq_true_eq]at h;have a:=E_ p hs h.2;have b:=eN (n:=p.length) (by omega);have c:p.length*32<=8*32:=uN _ h.1;unfold kB;rw[gP];omega
theorem Z3{S:St}{j:Nat}{aW:bq}(hS:S[j]? =some (ej j aW))(p:List dK)(hs:∀s∈p,s.Wf)(hr:zf p=true)(hb:aW.length+1000<=1073741824):
 DF ax nk 145 [.ptr j 0,eD p] S=some (.cT [],S.set j (ej j (aW++kB p))):=by
 have Co:=hr;unfold zf at Co;simp only[dk,decide_eq_true_eq]at Co;have hj:j<S.length:=(fI.1 hS).1;have h0:=NQ p (by omega) hs S;rw[hr]at h0;have c1:=dR hS p.length (by omega) (by omega);have b:=eN (n:=p.length) (by omega);have fl:=E_ p hs Co.2;obtain⟨G,e⟩:=Z2 p Co.1 hs Co.2 j S.length p.length 0 _ _ (by omega) (Jm (o':=aW++bI p.length) hS) (by simp only[gP,jS];omega);rw[N7]at e;have wl:IntKind.wrap .u64 (p.length:Int)=(p.length:Int):=by show(p.length:Int)%18446744073709551616=_;omega
 have xv:∀b G,(S.set j b++G).take S.length=S.set j b:=fun b G=>by rw[ob (by simp),gO (by simp)]
 rw[UC,ak EG.eq_1];unfold kB;simp at e;simp[h0,c1,wl,b8,bF];rw[ae jO.eq_1];simp[e,xv,cC,ay,bA,aw]
def bj.b_(v:bj)(i:Nat):bq:=if v.kind=5 then bj.dt (v.ar.drop i) (v.parts.drop i)else(v.ar.drop i).flatMap aM
theorem Vk(v:bj)(hv:v.Of)(j m nb:Nat)(QU:j≠m)(h5:v.kind=5->v.parts.length=v.ar.length)
 (hF:∀x∈v.parts,∀(S:St)(aW:bq),S[j]? =some (ej j aW)->aW.length+x.bytes.length+100<=1073741824->DF ax nk 178 [.ptr j 0,.agg x.ai] S=some (.cT [],S.set j (ej j (aW++x.bytes)))):
 ∀d i(T:St)(aW:bq),i+d=v.ar.length->T[j]? =some (ej j aW)->T[m]? =some (.mem v.ai [] false)->aW.length+(v.b_ i).length+100<=1073741824->
 DC ax nk (.loop dP) ⟨[(0,.ptr j 0),(3,.ptr m 0),(26,cw v.ar),(27,.int .i64 v.ar.length),(28,.int .i64 (i:Nat))],[],nb⟩ T=some (.exit 0,⟨[(0,.ptr j 0),(3,.ptr m 0)],[],nb⟩,T.set j (ej j (aW++v.b_ i))):=by
 have hl:=hv.ar;intro d;induction d with
 |zero=>
  intro i T aW hi hT hm hb;rw[aj,ak dP.eq_1];have K9:¬i<v.ar.length:=by omega
  have e3:v.ar.drop i=[]:=dV (by omega);have er:v.b_ i=[]:=by unfold bj.b_;rw[e3];split<;>simp[bj.dt]
  have ss:T.set j (ej j (aW++[]))=T:=by rw[kH];obtain⟨a,e⟩:=fI.1 hT;rw[<-e,Qg]
  rw[er,ss];simp[K9]
 |succ d ih=>
  intro i T aW hi hT hm hb;have h3:i<v.ar.length:=by omega
  have hj:j<T.length:=(fI.1 hT).1;obtain⟨a,ha,JY⟩:=aE (l:=v.ar) (i:=i) (by omega);have hw:=aV (i:=i) (by omega);have la:a.length<=(aM a).length:=by unfold aM;simp
  have mm:∀o,(T.set j (ej j o))[m]? =some (.mem v.ai [] false):=fun o=>by rw[lG QU];exact hm
  have l0:∀o,aY (T.set j (ej j o)) .cell (.ptr m 0)=some (.int .i64 v.kind):=fun o=>by rw[bd (mm o)];simp
  have l2:∀o,aY (T.set j (ej j o)) .cell (.ptr m 2)=some (oU v.parts):=fun o=>by rw[bd (mm o)];simp
  by_cases k5:v.kind=5
  ·obtain⟨y,hy,gg⟩:=aE (l:=v.parts) (i:=i) (by have:=h5 k5;omega)
   have er:v.b_ i=aM a++(y.bytes++v.b_ (i+1)):=by unfold bj.b_;rw[if_pos k5,if_pos k5,aJ ha,aJ hy,bj.dt]
   have lb:(aM a).length+(y.bytes.length+(v.b_ (i+1)).length)=(v.b_ i).length:=by rw[er];simp
   have c1:=kC hT a (by omega);have c2:=hF y (eT hy) _ _ (Jm (o':=aW++aM a) hT) (by simp;omega);rw[N7]at c2;have hn:=ih (i+1) (T.set j (ej j (aW++aM a++y.bytes))) (aW++aM a++y.bytes) (by omega) (Jm hT) (mm _) (by simp;omega);rw[N7]at hn;rw[er,aj,ak dP.eq_1];simp at hw hn c2;simp[h3,JY,hy,l0,l2,k5,c1,c2,b8];rw[ae dP.eq_1];simp[hw,hn]
  ·have er:v.b_ i=aM a++v.b_ (i+1):=by unfold bj.b_;rw[if_neg k5,if_neg k5,aJ ha,z6]
   have lb:(aM a).length+(v.b_ (i+1)).length=(v.b_ i).length:=by rw[er];simp
   have c1:=kC hT a (by omega);have hn:=ih (i+1) (T.set j (ej j (aW++aM a))) (aW++aM a) (by omega) (Jm hT) (mm _) (by simp;omega);rw[N7]at hn;rw[er,aj,ak dP.eq_1];simp at hw hn;simp[h3,JY,l0,l2,k5,c1,b8];rw[ae dP.eq_1];simp[hw,hn]
theorem Vl:∀(d:Nat)(v:bj),v.Wf->v.aR d=true->∀(S:St)(j:Nat)(aW:bq),S[j]? =some (ej j aW)->aW.length+v.bytes.length+100<=1073741824->DF ax nk 178 [.ptr j 0,.agg v.ai] S=some (.cT [],S.set j (ej j (aW++v.bytes))):=by
 intro d;induction d with
 |zero=>intro v _ h;simp[bj.aR]at h
 |succ d ih=>
  intro v hv h S j aW hS hb;have R:=bj.fa h;have hj:j<S.length:=(fI.1 hS).1;have RT:(S++[.mem v.ai [] false])[j]? =some (ej j aW):=cd _ hS;have lb:=v.lS;have c1:=rS RT (UInt8.ofNat v.kind.toNat) (by omega);rw[dL _ hj]at c1;have ld:=fun o sh off=>AS (S:=S) j (ej j o) v.ai [] false sh off;have l0:=fun o=>ld o .cell 0;have l1:=fun o=>ld o .cell 1;have l2:=fun o=>ld o .cell 2;simp at l0 l1 l2;have xv:∀b G,(S.set j b++G).take S.length=S.set j b:=fun b G=>by rw[ob (by simp),gO (by simp)]
  have S1:∀o,(S.set j (ej j o)++[.mem v.ai [] false])[j]? =some (ej j o):=fun o=>mn hS _ _
  have m2:∀o,(S.set j (ej j o)++[.mem v.ai [] false])[S.length]? =some (.mem v.ai [] false):=fun o=>by
   have:S.length=(S.set j (ej j o)).length:=by simp
   rw[this];simp
  have hF:∀x∈v.parts,∀(S:St)(aW:bq),S[j]? =some (ej j aW)->aW.length+x.bytes.length+100<=1073741824->DF ax nk 178 [.ptr j 0,.agg x.ai] S=some (.cT [],S.set j (ej j (aW++x.bytes))):=fun x hx S aW h1 h2=>ih x (hv.all x hx) (R.all x hx) S j aW h1 h2;have hlp:=Vk v hv.one j S.length S.length (by omega);have wl:IntKind.wrap .u64 (v.ar.length:Int)=(v.ar.length:Int):=by have:=hv.one.ar;show(v.ar.length:Int)%18446744073709551616=_;omega
  rw[Pq,ak AA.eq_1];rcases R.kind with k|k|k|k|k|k
  ·obtain⟨hw0,hp0⟩:=R.k13 (.inl k)
   have eb:v.bytes=[UInt8.ofNat v.kind.toNat]:=by rw[lb,if_neg (by omega),if_neg (by omega),if_neg (by omega),hp0];simp[bj.eU]
   have e:=hlp (fun g=>by omega) hF v.ar.length 0 _ _ (by omega) (S1 (aW++[UInt8.ofNat v.kind.toNat])) (m2 _) (by unfold bj.b_;rw[hw0,if_neg (by omega)];rw[eb]at hb;simp at hb⊢;omega);rw[eV hj]at e;have er:v.b_ 0=[]:=by unfold bj.b_;rw[hw0,if_neg (by omega)];rfl
   rw[er,kH,hw0]at e;have wk:IntKind.wrap .u8 1=(((UInt8.ofNat v.kind.toNat).toNat:Nat):Int):=by rw[k];rfl
   rw[eb];generalize UInt8.ofNat v.kind.toNat=u at*;simp at e;simp[wk,c1,l0,l1,k,hw0,b8];rw[ae dP.eq_1];simp[e,l0,k,xv,cC,ay,bA,aw]
  ·obtain⟨hw0,hp0⟩:=R.k13 (.inr (.inl k))
   have eb:v.bytes=[UInt8.ofNat v.kind.toNat]:=by rw[lb,if_neg (by omega),if_neg (by omega),if_neg (by omega),hp0];simp[bj.eU]
   have e:=hlp (fun g=>by omega) hF v.ar.length 0 _ _ (by omega) (S1 (aW++[UInt8.ofNat v.kind.toNat])) (m2 _) (by unfold bj.b_;rw[hw0,if_neg (by omega)];rw[eb]at hb;simp at hb⊢;omega);rw[eV hj]at e;have er:v.b_ 0=[]:=by unfold bj.b_;rw[hw0,if_neg (by omega)];rfl
   rw[er,kH,hw0]at e;have wk:IntKind.wrap .u8 2=(((UInt8.ofNat v.kind.toNat).toNat:Nat):Int):=by rw[k];rfl
   rw[eb];generalize UInt8.ofNat v.kind.toNat=u at*;simp at e;simp[wk,c1,l0,l1,k,hw0,b8];rw[ae dP.eq_1];simp[e,l0,k,xv,cC,ay,bA,aw]
  ·obtain⟨hw0,hp0⟩:=R.k13 (.inr (.inr k))
   have eb:v.bytes=[UInt8.ofNat v.kind.toNat]:=by rw[lb,if_neg (by omega),if_neg (by omega),if_neg (by omega),hp0];simp[bj.eU]
   have e:=hlp (fun g=>by omega) hF v.ar.length 0 _ _ (by omega) (S1 (aW++[UInt8.ofNat v.kind.toNat])) (m2 _) (by unfold bj.b_;rw[hw0,if_neg (by omega)];rw[eb]at hb;simp at hb⊢;omega);rw[eV hj]at e;have er:v.b_ 0=[]:=by unfold bj.b_;rw[hw0,if_neg (by omega)];rfl
   rw[er,kH,hw0]at e;have wk:IntKind.wrap .u8 3=(((UInt8.ofNat v.kind.toNat).toNat:Nat):Int):=by rw[k];rfl
   rw[eb];generalize UInt8.ofNat v.kind.toNat=u at*;simp at e;simp[wk,c1,l0,l1,k,hw0,b8];rw[ae dP.eq_1];simp[e,l0,k,xv,cC,ay,bA,aw]
  ·have er:v.b_ 0=v.ar.flatMap aM:=by unfold bj.b_;rw[if_neg (by omega)];rfl
   have eb:v.bytes=UInt8.ofNat v.kind.toNat::(bI v.ar.length++v.b_ 0):=by rw[lb,if_pos (.inl k),if_pos k,er]
   rw[eb]at hb;simp at hb;have c2:=dR (S1 (aW++[UInt8.ofNat v.kind.toNat])) v.ar.length (by have:=hv.one.ar;omega) (by simp;omega);rw[eV hj]at c2;have e:=hlp (fun g=>by omega) hF v.ar.length 0 _ _ (by omega) (S1 (aW++[UInt8.ofNat v.kind.toNat]++bI v.ar.length)) (m2 _) (by simp;omega);rw[eV hj]at e;have wk:IntKind.wrap .u8 4=(((UInt8.ofNat v.kind.toNat).toNat:Nat):Int):=by rw[k];rfl
   rw[eb];generalize UInt8.ofNat v.kind.toNat=u at*;simp at e c2;simp[wk,wl,c1,c2,l0,l1,k,b8];rw[ae dP.eq_1];simp[e,l0,k,xv,cC,ay,bA,aw]
  ·have h5:=R.k5 k
   have er:v.b_ 0=bj.dt v.ar v.parts:=by unfold bj.b_;rw[if_pos k];rfl
   have eb:v.bytes=UInt8.ofNat v.kind.toNat::(bI v.ar.length++v.b_ 0):=by rw[lb,if_pos (.inr k),if_neg (by omega),if_pos k,er]
   rw[eb]at hb;simp at hb;have c2:=dR (S1 (aW++[UInt8.ofNat v.kind.toNat])) v.ar.length (by have:=hv.one.ar;omega) (by simp;omega);rw[eV hj]at c2;have e:=hlp (fun _=>h5.2.2) hF v.ar.length 0 _ _ (by omega) (S1 (aW++[UInt8.ofNat v.kind.toNat]++bI v.ar.length)) (m2 _) (by simp;omega);rw[eV hj]at e;have wk:IntKind.wrap .u8 5=(((UInt8.ofNat v.kind.toNat).toNat:Nat):Int):=by rw[k];rfl
   rw[eb];generalize UInt8.ofNat v.kind.toNat=u at*;simp at e c2;simp[wk,wl,c1,c2,l0,l1,k,b8];rw[ae dP.eq_1];simp[e,l0,k,xv,cC,ay,bA,aw]
  ·obtain⟨hw0,hp1⟩:=R.k6 k
   obtain⟨x,hx⟩:=Ht.1 hp1;have eb:v.bytes=UInt8.ofNat v.kind.toNat::x.bytes:=by rw[lb,if_neg (by omega),if_neg (by omega),if_neg (by omega),hx];simp[bj.eU]
   rw[eb]at hb;simp at hb;have e:=hlp (fun g=>by omega) hF v.ar.length 0 _ _ (by omega) (S1 (aW++[UInt8.ofNat v.kind.toNat])) (m2 _) (by unfold bj.b_;rw[hw0,if_neg (by omega)];simp;omega);rw[eV hj]at e;have er:v.b_ 0=[]:=by unfold bj.b_;rw[hw0,if_neg (by omega)];rfl
   rw[er,kH,hw0]at e;have c3:=hF x (by rw[hx];simp) _ _ (S1 (aW++[UInt8.ofNat v.kind.toNat])) (by simp;omega);rw[eV hj]at c3;have ix:=z_ v.parts .i64 0;rw[hx]at ix;have wk:IntKind.wrap .u8 6=(((UInt8.ofNat v.kind.toNat).toNat:Nat):Int):=by rw[k];rfl
   rw[eb];generalize UInt8.ofNat v.kind.toNat=u at*;simp at e c3 ix;simp[wk,c1,l0,l1,k,hw0,b8];rw[ae dP.eq_1];simp[e,l0,l2,k,hx,ix,c3,b8,xv,cC,ay,bA,aw]
theorem yg(v:bj)(hv:v.Wf)(S:St):DF ax nk 146 [.agg v.ai] S=some (xJ (v.aR 5) v.bytes,S):=by
 have h1:=Jr v hv (S++[.mem v.ai [] false]);have e1:A0 1=.iL 62 (.int .i64 1):=rfl;have e3:A0 3=.iL 62 (.int .i64 3):=rfl;rw[NM,ak xU.eq_1];unfold xJ;cases hr:v.aR 5
 ·rw[hr]at h1
  simp[h1,e1,bF,cC,ay,bA,aw,aS,bD,a9,bu]
 ·rw[hr]at h1
  have hb:=bj.kZ hr;have XH:cF.mem [.ah] [] false=ej (S.length+1) []:=rfl;have hS:(S++[.mem v.ai [] false,ej (S.length+1) []])[S.length+1]? =some (ej (S.length+1) []):=by simp
  have c1:=Vl 5 v hv hr _ _ _ hS (by simp;omega);have ss:(S++[.mem v.ai [] false,ej (S.length+1) []]).set (S.length+1) (ej (S.length+1) ([]++v.bytes))=S++[.mem v.ai [] false,ej (S.length+1) v.bytes]:=by simp
  rw[ss]at c1;have hS2:(S++[.mem v.ai [] false,ej (S.length+1) v.bytes])[S.length+1]? =some (ej (S.length+1) v.bytes):=by simp
  have c2:=qB hS2 (by omega);have c3:=So v.gp;have c4:=sc v.gp;have c5:=Sp v.bytes;have hp:=df v.bytes;have c6:(if v.bytes=[]then AV.ah else AV.sl .fresh 1 (bW v.bytes))=acu v.bytes:=rfl;rw[c6]at c2;by_cases hl:4096<v.bytes.length
  ·have tC:((4096:Int)<(v.bytes.length:Int))=True:=eq_true (by omega)
   simp[h1,XH,c1,c2,c3,hl,tC,e3,b8,bF,gj,cC,ay,bA,aw,aS,bD,a9,bu]
  ·have tC:((4096:Int)<(v.bytes.length:Int))=False:=eq_false (by omega)
   simp[h1,XH,c1,c2,HR,hl,tC,c4,b8,bF,gj,cC,ay,bA,aw,aS,bD,hp,a9,bu]
theorem aiM(s:bq)(e:AV)(he:∀t,cA t e=(e,t)):aT [] (.cT [.sl .fresh 1 (bW s),e])=(.cT [.sl (.fr 0) 1 (bW s),e],[some s.length]):=by show(match cA ([]++[some (bW s).length]) e with|(v',t')=>((.cT [.sl (.fr 0) 1 (bW s),v']:AV),t'))=_;rw[he,lR];rfl
theorem vj(s:bq):aT [] (.cT [.sl .fresh 1 (bW s),.bP])=(.cT [.sl (.fr 0) 1 (bW s),.bP],[some s.length]):=aiM s .bP fun _=>rfl
theorem aqv(e:AV)(he:∀t,cA t e=(e,t))(t:List (Option Nat)):aT t (.cT [.ah,e])=(.cT [.ah,e],t):=by show(match cA t e with|(v',t')=>((.cT [.ah,v']:AV),t'))=_;rw[he]
theorem abz(c:Nat)(t:List (Option Nat)):aT t (.cT [.ah,A0 c])=(.cT [.ah,A0 c],t):=aqv _ (fun t=>by unfold A0;split<;>rfl) t
theorem N8(S:St)(k:Nat)(s:bq):bN S (.sl (.fr k) 1 (bW s))=some (.sl .none 1 (bW s)):=rfl
theorem ma(s:bq):norm (.sl .none 1 (bW s))=bO s:=by cases s<;>rfl
theorem N9(S:St)(k:Nat)(s:bq):cg S (.sl (.fr k) 1 (bW s))=S:=rfl
theorem Dz(S S':St)(k:Nat)(s:bq):bB S S' (.sl (.fr k) 1 (bW s))=S':=rfl
theorem Qi(a b:bq):aT [some a.length] (.sl .fresh 1 (bW b))=(.sl (.fr 1) 1 (bW b),[some a.length,some b.length]):=by show(AV.sl (.fr 1) 1 (bW b),[some a.length,some (bW b).length])=_;rw[lR]
theorem aqw(a b:bq):a9 [some a.length,some b.length] (.sl (.fr 1) 1 (bW b))=(.sl .fresh 1 (bW b),[some a.length,none]):=by have:=vg [some a.length,some b.length] 1 1 (bW b) (by simp);simpa using this
theorem Dm{o:ph}(h:Oe o=true):zf o.path=true:=by unfold Oe at h;rw[dk]at h;exact h.1
theorem UN{o:ph}(h:Oe o=true):o.kind=1\/o.kind=2\/o.kind=3\/o.kind=4:=by
 unfold Oe at h;rw[dk]at h;have h:=h.2;by_cases k1:o.kind=1;·exact .inl k1
 by_cases k2:o.kind=2;·exact .inr (.inl k2)
 by_cases k3:o.kind=3;·exact .inr (.inr (.inl k3))
 by_cases k4:o.kind=4;·exact .inr (.inr (.inr k4))
 rw[if_neg k1,if_neg k2,if_neg k3,if_neg k4]at h;cases h
theorem JP{o:ph}(h:Oe o=true)(k:o.kind=1\/o.kind=2):o.value.aR 5=true:=by
 unfold Oe at h;rw[dk]at h;have h:=h.2;rcases k with k|k;·rw[if_pos k]at h;simp only[dk]at h;exact h.2
 ·rw[if_neg (by omega),if_pos k]at h;simp only[dk]at h;exact h.2
theorem Y5{o:ph}(ho:o.Wf)(h:Oe o=true):(wm o).length<=74260000:=by
 have a:=UO ho.path (Dm h);have b:=eN (n:=o.id.toNat) (by have:=ho.id1;omega);have c:=eN (n:=o.after.toNat) (by have:=ho.af1;omega);unfold wm;simp only[jC,gP];have d:(if 1<o.kind then bI o.id.toNat else[]).length<=10:=by
  split;·exact b
  ·simp
 have e:(if o.kind=2\/o.kind=4 then bI o.after.toNat else[]).length<=10:=by
  split;·exact c
  ·simp
 have f:(if o.kind=1\/o.kind=2 then o.value.bytes else[]).length<=74258600:=by
  split;·rename_i k;exact aX.kZ ho.value (JP h k)
  ·simp
 omega
theorem TN(o:ph):wm o≠[]:=by unfold wm;simp
theorem aes{S:St}{j:Nat}{aW:bq}(hS:S[j]? =some (ej j aW))(o:ph)(ho:o.Wf)(hr:Oe o=true)(hv:o.kind=1\/o.kind=2->o.value.bytes.length<=4096)(hb:aW.length+10000<=1073741824):
 DF ax nk 94 [.ptr j 0,.agg o.ai] S=some (.cT [],S.set j (ej j (aW++wm o))):=by
 have hj:j<S.length:=(fI.1 hS).1;have RT:(S++[.mem o.ai [] false])[j]? =some (ej j aW):=cd _ hS;have c1:=rS RT (UInt8.ofNat o.kind.toNat) (by omega);rw[dL _ hj]at c1;have pl:=UO ho.path (Dm hr);have c2:=Z3 (mn hS (aW++[UInt8.ofNat o.kind.toNat]) [.mem o.ai [] false]) o.path ho.path (Dm hr) (by simp;omega);rw[eV hj]at c2;have ld:=fun o' sh off=>AS (S:=S) j (ej j o') o.ai [] false sh off;have l0:=fun o'=>ld o' .cell 0;have l1:=fun o'=>ld o' .cell 1;have l2:=fun o'=>ld o' .cell 2;have l3:=fun o'=>ld o' .cell 3;have l4:=fun o'=>ld o' (.agg 6) 4;simp at l0 l1 l2 l3 l4;have xv:∀b G,(S.set j b++G).take S.length=S.set j b:=fun b G=>by rw[ob (by simp),gO (by simp)]
 have b1:=eN (n:=o.id.toNat) (by have:=ho.id1;omega);have b2:=eN (n:=o.after.toNat) (by have:=ho.af1;omega);have ea:((o.id.toNat:Nat):Int)=o.id:=by have:=ho.id0;omega
 have eb:((o.after.toNat:Nat):Int)=o.after:=by have:=ho.af0;omega
 have cid:=fun o' hb=>dR (mn hS o' [.mem o.ai [] false]) o.id.toNat (by have:=ho.id1;omega) hb;have caf:=fun o' hb=>dR (mn hS o' [.mem o.ai [] false]) o.after.toNat (by have:=ho.af1;omega) hb;have cvl:=fun o' hb=>iG (mn hS o' [.mem o.ai [] false]) o.value.bytes hb;simp only[eV hj,ea,eb]at cid caf cvl;have cen:=uA o.value ho.value;have c4:=sc o.value.gp;rw[Zq,ak Mc.eq_1];rcases UN hr with k|k|k|k
 ·have hvr:=JP hr (.inl k)
  have hl:=hv (.inl k);have ce:xJ (o.value.aR 5) o.value.bytes=.cT [.sl .fresh 1 (bW o.value.bytes),.bP]:=by unfold xJ;rw[if_pos hvr,if_neg (by omega),c4]
  rw[ce]at cen;have e:wm o=UInt8.ofNat o.kind.toNat::(kB o.path++o.value.bytes):=by unfold wm;simp[k]
  have cv:=cvl (aW++[UInt8.ofNat o.kind.toNat]++kB o.path) (by simp;omega);have wk:IntKind.wrap .u8 1=(((UInt8.ofNat o.kind.toNat).toNat:Nat):Int):=by rw[k];rfl
  rw[e];generalize UInt8.ofNat o.kind.toNat=u at*;simp at c2 cv;simp[k,wk,c1,c2,l0,l1,l2,l4,cen,vj,N8,ma,N9,Dz,cv,cK,b8,xv,cC,ay,bA,aw]
 ·have hvr:=JP hr (.inr k)
  have hl:=hv (.inr k);have ce:xJ (o.value.aR 5) o.value.bytes=.cT [.sl .fresh 1 (bW o.value.bytes),.bP]:=by unfold xJ;rw[if_pos hvr,if_neg (by omega),c4]
  rw[ce]at cen;have e:wm o=UInt8.ofNat o.kind.toNat::(kB o.path++(bI o.id.toNat++(bI o.after.toNat++o.value.bytes))):=by unfold wm;simp[k]
  have ci:=cid (aW++[UInt8.ofNat o.kind.toNat]++kB o.path) (by simp;omega);have ca:=caf (aW++[UInt8.ofNat o.kind.toNat]++kB o.path++bI o.id.toNat) (by simp;omega);have cv:=cvl (aW++[UInt8.ofNat o.kind.toNat]++kB o.path++bI o.id.toNat++bI o.after.toNat) (by simp;omega);have wk:IntKind.wrap .u8 2=(((UInt8.ofNat o.kind.toNat).toNat:Nat):Int):=by rw[k];rfl
  rw[e];generalize UInt8.ofNat o.kind.toNat=u at*;simp at c2 ci ca cv;simp[k,wk,c1,c2,l0,l1,l2,l3,l4,ci,ca,cen,vj,N8,ma,N9,Dz,cv,cK,b8,xv,cC,ay,bA,aw]
 ·have e:wm o=UInt8.ofNat o.kind.toNat::(kB o.path++bI o.id.toNat):=by unfold wm;simp[k]
  have ci:=cid (aW++[UInt8.ofNat o.kind.toNat]++kB o.path) (by simp;omega);have wk:IntKind.wrap .u8 3=(((UInt8.ofNat o.kind.toNat).toNat:Nat):Int):=by rw[k];rfl
  rw[e];generalize UInt8.ofNat o.kind.toNat=u at*;simp at c2 ci;simp[k,wk,c1,c2,l0,l1,l2,l3,l4,ci,b8,xv,cC,ay,bA,aw]
 ·have e:wm o=UInt8.ofNat o.kind.toNat::(kB o.path++(bI o.id.toNat++bI o.after.toNat)):=by unfold wm;simp[k]
  have ci:=cid (aW++[UInt8.ofNat o.kind.toNat]++kB o.path) (by simp;omega);have ca:=caf (aW++[UInt8.ofNat o.kind.toNat]++kB o.path++bI o.id.toNat) (by simp;omega);have wk:IntKind.wrap .u8 4=(((UInt8.ofNat o.kind.toNat).toNat:Nat):Int):=by rw[k];rfl
  rw[e];generalize UInt8.ofNat o.kind.toNat=u at*;simp at c2 ci ca;simp[k,wk,c1,c2,l0,l1,l2,l3,l4,ci,ca,b8,xv,cC,ay,bA,aw]
theorem Qh(o:ph)(ho:o.Wf)(S:St):DF ax nk 49 [.agg o.ai] S=some (xJ (Oe o) (wm o),S):=by
 have h1:=TL o ho (S++[.mem o.ai [] false]);have cen:=uA o.value ho.value (S++[.mem o.ai [] false]);have e1:A0 1=.iL 62 (.int .i64 1):=rfl;have e3:A0 3=.iL 62 (.int .i64 3):=rfl;have x3:aT [] (.cT [.ah,.iL 62 (.int .i64 3)])=(.cT [.ah,.iL 62 (.int .i64 3)],[]):=rfl;rw[Wc,ak Iv.eq_1];unfold xJ;cases hr:Oe o
 ·rw[hr]at h1
  simp[h1,e1,bF,cC,ay,bA,aw,aS,bD,a9,bu]
 rw[hr]at h1;have hb:=Y5 ho hr;have XH:cF.mem [.ah] [] false=ej (S.length+1) []:=rfl;have hS:(S++[.mem o.ai [] false,ej (S.length+1) []])[S.length+1]? =some (ej (S.length+1) []):=by simp
 have c3:=So (TN o);have c4:=sc (TN o);have c5:=Sp (wm o);have hp:=df (wm o);have b1:du .neq (.iL ff) true (.iL 62 (.int .i64 3)) .bP=some (.bool true):=rfl;have b0:du .neq (.iL ff) true .bP .bP=some (.bool false):=rfl;have fin:(o.kind=1\/o.kind=2->o.value.bytes.length<=4096)->∃h2:DF ax nk 94 [.ptr (S.length+1) 0,.agg o.ai] (S++[.mem o.ai [] false,ej (S.length+1) []])=some (.cT [],S++[.mem o.ai [] false,ej (S.length+1) (wm o)]),
  DF ax nk 51 [.ptr (S.length+1) 0] (S++[.mem o.ai [] false,ej (S.length+1) (wm o)])=some (acu (wm o),S++[.mem o.ai [] false,ej (S.length+1) (wm o)]):=by
  intro hv;have c1:=aes hS o ho hr hv (by simp);have ss:(S++[.mem o.ai [] false,ej (S.length+1) []]).set (S.length+1) (ej (S.length+1) ([]++wm o))=S++[.mem o.ai [] false,ej (S.length+1) (wm o)]:=by simp
  rw[ss]at c1;have hS2:(S++[.mem o.ai [] false,ej (S.length+1) (wm o)])[S.length+1]? =some (ej (S.length+1) (wm o)):=by simp
  exact⟨c1,qB hS2 (by omega)⟩
 by_cases kv:o.kind=1\/o.kind=2
 ·have hvr:=JP hr kv
  have ol:(wm o).length≥o.value.bytes.length:=by unfold wm;rw[if_pos kv];simp only[jC,gP];omega
  unfold xJ at cen;rw[if_pos hvr]at cen;have kc:∀(P:Prop),(o.kind=1->P)->(o.kind=2->P)->P:=fun P a b=>kv.elim a b;by_cases DQ:4096<o.value.bytes.length
  ·rw[if_pos DQ]at cen
   have hlo:4096<(wm o).length:=by omega
   rw[e3]at cen;refine kc _ (fun k=>?_) (fun k=>?_)<;>
   simp[h1,k,cen,hlo,x3,b1,e3,cK,bF,cC,ay,bA,aw,aS,bD,a9,bu]
  ·rw[if_neg DQ,sc o.value.gp]at cen
   obtain⟨c1,c2⟩:=fin fun _=>by omega
   have tw:=vj o.value.bytes;have wv:=Qi o.value.bytes (wm o);by_cases hl:4096<(wm o).length
   ·have tC:((4096:Int)<((wm o).length:Int))=True:=eq_true (by omega)
    refine kc _ (fun k=>?_) (fun k=>?_)<;>
    simp[h1,k,cen,tw,b0,XH,c1,c2,c4,wv,hl,tC,e3,b8,cK,bF,gj,cC,ay,bA,aw,aS,bD,a9,bu]
   ·have tC:((4096:Int)<((wm o).length:Int))=False:=eq_false (by omega)
    have gv:=aqw o.value.bytes (wm o);refine kc _ (fun k=>?_) (fun k=>?_)<;>
    simp[h1,k,cen,tw,b0,XH,c1,c2,c4,wv,hp,hl,tC,b8,cK,bF,gj,cC,ay,bA,aw,aS,bD,a9,bu]
 ·have n1:¬o.kind=1:=fun e=>kv (.inl e)
  have n2:¬o.kind=2:=fun e=>kv (.inr e);obtain⟨c1,c2⟩:=fin fun h=>absurd h kv;by_cases hl:4096<(wm o).length
  ·have tC:((4096:Int)<((wm o).length:Int))=True:=eq_true (by omega)
   simp[h1,n1,n2,XH,c1,c2,c3,hl,tC,e3,b8,bF,gj,cC,ay,bA,aw,aS,bD,a9,bu]
  ·have tC:((4096:Int)<((wm o).length:Int))=False:=eq_false (by omega)
   simp[h1,n1,n2,XH,c1,c2,HR,hl,tC,c4,b8,bF,gj,cC,ay,bA,aw,aS,bD,hp,a9,bu]
theorem N_(t:List (Option Nat))(s:bq):aT t (.cT [.sl .fresh 1 (bW s),.bP])=(.cT [.sl (.fr t.length) 1 (bW s),.bP],t++[some s.length]):=by show((.cT [.sl (.fr t.length) 1 (bW s),.bP]:AV),t++[some (bW s).length])=_;rw[lR]
structure aX.Wr(v:aX):Prop where
 wf:v.Wf
 right:v.aR 5=true
 short:v.bytes.length<=4096
theorem aX.Wr.ai{v:aX}(h:v.Wr):xJ (v.aR 5) v.bytes=.cT [.sl .fresh 1 (bW v.bytes),.bP]:=by have:=h.short;unfold xJ;rw[if_pos h.right,if_neg (by omega),sc v.gp]
theorem Wy(l:List aX)(hl:l.length<=4)(hw:∀v∈l,v.Wr)(j nb:Nat):
 ∀d i(T:St)(aW:bq)(aa:List (Option Nat)),i+d=l.length->T[j]? =some (ej j aW)->aW.length+((l.drop i).flatMap aX.bytes).length+100<=1073741824->
 ∃aG G,DC ax nk (.loop lg) ⟨[(0,.ptr j 0),(8,lU l),(9,.int .i64 l.length),(10,.int .i64 (i:Nat))],aa,nb⟩ T=some (.exit 0,⟨[],aG,nb⟩,T.set j (ej j (aW++(l.drop i).flatMap aX.bytes))++G):=by
 intro d;induction d with
 |zero=>
  intro i T aW aa hi hT hb;refine⟨aa,[], ?_⟩;rw[aj,ak lg.eq_1];have K9:¬i<l.length:=by omega
  have e3:l.drop i=[]:=dV (by omega);have ss:T.set j (ej j (aW++[]))=T:=by rw[kH];obtain⟨a,e⟩:=fI.1 hT;rw[<-e,Qg]
  rw[e3,TC,ss];simp[K9]
 |succ d ih=>
  intro i T aW aa hi hT hb;have h3:i<l.length:=by omega
  have hj:j<T.length:=(fI.1 hT).1;obtain⟨y,hy,gg⟩:=aE (l:=l) (i:=i) (by omega);have hyf:=hw y (eT hy);have hw':=aV (i:=i) (by omega);have vG:aL ab 0 y.ai=y.ai:=bX (by simp[ab]);have hT1:(T++[.mem y.ai [] false])[j]? =some (ej j aW):=cd _ hT;rw[aJ hy,z6]at hb⊢;simp only[gP]at hb;have c0:=uA y hyf.wf (T++[.mem y.ai [] false]);rw[hyf.ai]at c0;have c1:=iG hT1 y.bytes (by omega);rw[dL _ hj]at c1;have tw:=N_ aa y.bytes;obtain⟨aG,G,hn⟩:=ih (i+1) (T.set j (ej j (aW++y.bytes))++[.mem y.ai [] false]) (aW++y.bytes) (aa++[some y.bytes.length]) (by omega) (mn hT _ _) (by simp only[gP];omega);rw[eV hj]at hn;refine⟨aG,.mem y.ai [] false::G, ?_⟩;rw[aj,ak lg.eq_1];simp at hw' hn;simp[h3,gg,vG,c0,tw,N8,ma,N9,Dz,c1,cK,b8];rw[ae lg.eq_1];simp[hw',hn]
theorem vV{S:St}{j:Nat}{aW:bq}(hS:S[j]? =some (ej j aW))(l:List aX)(hl:l.length<=4)(hw:∀v∈l,v.Wr)(hb:aW.length+(l.flatMap aX.bytes).length+100<=1073741824):
 DF ax nk 148 [.ptr j 0,lU l] S=some (.cT [],S.set j (ej j (aW++l.flatMap aX.bytes))):=by
 have hj:j<S.length:=(fI.1 hS).1;obtain⟨aa,G,e⟩:=Wy l hl hw j S.length l.length 0 S aW [] (by omega) hS (by simpa using hb);have xv:∀b G,(S.set j b++G).take S.length=S.set j b:=fun b G=>by rw[ob (by simp),gO (by simp)]
 rw[Ro,ak B9.eq_1];simp at e;simp;rw[ae lg.eq_1];simp[e,xv,cC,ay,bA,aw]
theorem US(v:aX):e_ 6 [ab] [(0,.agg v.ai)]=some [v.ai]:=by have:=(aX.fJ v).dN;simp[e_,aB,AV.cells,aaq]
theorem akj(v:aX):norm (.sl .exact 6 [v.ai])=lU [v]:=rfl
theorem aqx(v w:aX):e_ 6 [ab,ab] [(0,.agg v.ai),(1,.agg w.ai)]=some [v.ai,w.ai]:=by have:=(aX.fJ v).dN;have:=(aX.fJ w).dN;simp[e_,aB,AV.cells,aaq, *]
theorem aqy(v w:aX):norm (.sl .exact 6 [v.ai,w.ai])=lU [v,w]:=rfl
theorem Z4(S:St)(sz:Nat)(es:List (List AV)):bN S (.sl .exact sz es)=some (.sl .exact sz es):=rfl
theorem Z5(S:St)(sz:Nat)(es:List (List AV)):cg S (.sl .exact sz es)=S:=rfl
theorem PV(S S':St)(sz:Nat)(es:List (List AV)):bB S S' (.sl .exact sz es)=S':=rfl
theorem Vm(l:bn)(hl:l.aO.length<=8)(hw:∀p∈l.aO,p.x.Wr/\p.y.Wr)(j m nb:Nat)(QU:j≠m):
 ∀d i(T:St)(aW:bq)(aa:List (Option Nat)),i+d=l.aO.length->T[j]? =some (ej j aW)->aW.length+((l.aO.drop i).flatMap j8).length+100<=1073741824->
 ∃aG G,DC ax nk (.loop mV) ⟨[(0,.ptr j 0),(3,.ptr m 0),(63,nj l.aO),(64,.int .i64 l.aO.length),(65,.int .i64 (i:Nat))],aa,nb⟩ T=some (.exit 0,⟨[(0,.ptr j 0),(3,.ptr m 0)],aG,nb⟩,T.set j (ej j (aW++(l.aO.drop i).flatMap j8))++G):=by
 intro d;induction d with
 |zero=>
  intro i T aW aa hi hT hb;refine⟨aa,[], ?_⟩;rw[aj,ak mV.eq_1];have K9:¬i<l.aO.length:=by omega
  have e3:l.aO.drop i=[]:=dV (by omega);have ss:T.set j (ej j (aW++[]))=T:=by rw[kH];obtain⟨a,e⟩:=fI.1 hT;rw[<-e,Qg]
  rw[e3,TC,ss];simp[K9]
 |succ d ih=>
  intro i T aW aa hi hT hb;have h3:i<l.aO.length:=by omega
  have hj:j<T.length:=(fI.1 hT).1;obtain⟨y,hy,gg⟩:=aE (l:=l.aO) (i:=i) (by omega);have hyf:=hw y (eT hy);have hw':=aV (i:=i) (by omega);have vG:aL jN 0 y.ai=y.ai:=bX (by simp[jN]);have hT1:(T++[.mem y.ai [] false])[j]? =some (ej j aW):=cd _ hT;rw[aJ hy,z6]at hb⊢;simp only[gP]at hb;have ep:[y.x,y.y].flatMap aX.bytes=j8 y:=by simp[j8]
  have c1:=vV hT1 [y.x,y.y] (by simp) (by intro v hv;rcases yi.1 hv with rfl|hv;exact hyf.1;simp at hv;subst hv;exact hyf.2) (by rw[ep];omega);rw[dL _ hj,ep]at c1;obtain⟨aG,G,hn⟩:=ih (i+1) (T.set j (ej j (aW++j8 y))++[.mem y.ai [] false]) (aW++j8 y) aa (by omega) (mn hT _ _) (by simp only[gP];omega);rw[eV hj]at hn;have b2:=aqx y.x y.y;refine⟨aG,.mem y.ai [] false::G, ?_⟩;rw[aj,ak mV.eq_1];simp at hw' hn b2;simp[h3,gg,vG,b2,aqy,Z4,Z5,PV,c1,b8];rw[ae mV.eq_1];simp[hw',hn]
theorem Vn(l:bn)(hl:l.bf.length<=1)(j nb:Nat)
 (hF:∀x∈l.bf,∀(S:St)(aW:bq),S[j]? =some (ej j aW)->aW.length+x.bytes.length+1000<=1073741824->DF ax nk 97 [.ptr j 0,.agg x.ai] S=some (.cT [],S.set j (ej j (aW++x.bytes)))):
 ∀d i(T:St)(aW:bq)(aa:List (Option Nat)),i+d=l.bf.length->T[j]? =some (ej j aW)->aW.length+(bn.eU (l.bf.drop i)).length+1000<=1073741824->
 ∃aG G,DC ax nk (.loop jb) ⟨[(0,.ptr j 0),(78,s_ l.bf),(79,.int .i64 l.bf.length),(80,.int .i64 (i:Nat))],aa,nb⟩ T=some (.exit 2,⟨[],aG,nb⟩,T.set j (ej j (aW++bn.eU (l.bf.drop i)))++G):=by
 intro d;induction d with
 |zero=>
  intro i T aW aa hi hT hb;refine⟨aa,[], ?_⟩;rw[aj,ak jb.eq_1];have K9:¬i<l.bf.length:=by omega
  have e3:l.bf.drop i=[]:=dV (by omega);have ss:T.set j (ej j (aW++[]))=T:=by rw[kH];obtain⟨a,e⟩:=fI.1 hT;rw[<-e,Qg]
  rw[e3,bn.eU,ss];simp[K9]
 |succ d ih=>
  intro i T aW aa hi hT hb;have h3:i<l.bf.length:=by omega
  have hj:j<T.length:=(fI.1 hT).1;obtain⟨y,hy,gg⟩:=aE (l:=l.bf) (i:=i) (by omega);have hw':=aV (i:=i) (by omega);have vG:aL ao 0 y.ai=y.ai:=bX (by simp[ao]);have hT1:(T++[.mem y.ai [] false])[j]? =some (ej j aW):=cd _ hT;rw[aJ hy,bn.eU]at hb⊢;simp only[gP]at hb;have c1:=hF y (eT hy) _ _ hT1 (by omega);rw[dL _ hj]at c1;obtain⟨aG,G,hn⟩:=ih (i+1) (T.set j (ej j (aW++y.bytes))++[.mem y.ai [] false]) (aW++y.bytes) aa (by omega) (mn hT _ _) (by simp only[gP];omega);rw[eV hj]at hn;refine⟨aG,.mem y.ai [] false::G, ?_⟩;rw[aj,ak jb.eq_1];simp at hw' hn;simp[h3,gg,vG,c1,b8];rw[ae jb.eq_1];simp[hw',hn]
end Go.Proofs.YtampclodiifalaaGreatDoor.am
