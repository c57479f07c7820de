/- Parts. No condition. -/
import Derived.Test.YteipnkjhnbaipaaGreatDoorQC
set_option linter.all false
namespace Go.Proofs.YteipnkjhnbaipaaGreatDoor.am
open Go
open Option renaming some->J,none->Z
open Bool renaming false->O,true->Y
open Go renaming FuncId->db
open Nat renaming le_refl->eI
open Go.Proofs.YteipnkjhnbaipaaGreatDoor.am renaming St->G,om->D,AV->H
section
noncomputable def lim{α:Type}(f:Nat->Option α):Option α:=
 open Classical in if h:∃a n,f n=J a then J (Classical.choose h)else Z
def M8{α:Type}{f:Nat->Option α}(b:∀n m a,n<=m->f n=J a->f m=J a)(a:α):lim f=J a↔∃n,f n=J a:=by
 unfold lim;constructor
 ·intro h
  split at h;all_goals grind
 ·rintro⟨n,c⟩
  have d:∃a n,f n=J a:=⟨a,n,c⟩
  grind
def xI{α:Type}{x y:Option α}(h:∀a,x=J a↔y=J a):x=y:=by
 cases b:x with
 |some a=>grind
 |none=>cases c:y<;>simp_all
def yA(call:cp)(F:Nat->cp):Prop:=∀f args S r,call f args S=J r->∃m,∀m',m<=m'->F m' f args S=J r
section
variable{call:cp}{F:Nat->cp}
def DX(nk:NK)(a:yA call F):yA (kU nk call) (λn=>kU nk (F n)):=by
 intro f b S r h;unfold kU at h⊢;cases c:nk.j6 f with
 |some p=>simp_all
 |none=>simp only[c]at h⊢;exact a f _ S r h
def Pr(a:yA call F){ab:ch}{S:G}{f:H}{args:bN}{r:H × ch × G}(h:yz call ab S f args=J r):∃m,∀c,m<=c->yz (F c) ab S f args=J r:=by
 unfold yz at h;split at h;·cases h
 rename_i o d p;split at h
 ·rename_i i
  split at h;·cases h
  rename_i b k;split at h;·cases h
  rename_i n j g;have⟨m,l⟩:=a _ _ _ _ g;refine⟨m,λc e=>?_⟩
  grind [yz]
 ·rename_i i
  split at h;·cases h
  rename_i b k;split at h;·cases h
  rename_i n j g;have⟨m,l⟩:=a _ _ _ _ g;refine⟨m,λc e=>?_⟩
  grind [yz]
def Yf(a:yA call F){K:bR}{S:G}{o:Cr}{r:H × ch × G}(h:jN call K S o=J r):∃m,∀c,m<=c->jN (F c) K S o=J r:=by
 cases o with
 |call f b=>exact Pr a h
 |_=>exact⟨0,λ_ _=>h⟩
def QN(a:yA call F){K:bR}{S:G}{o:KO}{r:H × bR × G}(h:DV call K S o=J r):∃m,∀b,m<=b->DV (F b) K S o=J r:=by
 unfold DV at h;split at h
 ·rename_i j
  split at h;case h_2=>cases h
  rename_i v c g e;have⟨f,i⟩:=Yf a e;refine⟨f,λb d=>?_⟩
  grind [DV]
 all_goals simp_all[DV]
def Yg(a:yA call F):∀(l:List KO){K:bR}{S:G}{r:bR × G},qo call l K S=J r->∃m,∀b,m<=b->qo (F b) l K S=J r:=by
 intro l;induction l with
 |nil=>intro K S r h;exact⟨0,λ_ _=>h⟩
 |cons o l e=>
  intro K S r h;simp only[qo]at h;split at h;case h_2=>cases h
  rename_i v i j d;have⟨f,k⟩:=QN a d;have⟨g,n⟩:=e h;refine⟨max f g,λb c=>?_⟩
  grind [qo]
def Yh(a:yA call F):∀(l:List KD){K:bR}{S:G}{b:List G}{ls:List zt}{r:bR × G × List G × List zt},vH call l K S b ls=J r->∃m,∀c,m<=c->vH (F c) l K S b ls=J r:=by
 intro l;induction l with
 |nil=>intro K S b ls r h;exact⟨0,λ_ _=>h⟩
 |cons o l f=>
  intro K S b ls r h;simp only[vH]at h;split at h;case h_2=>cases h
  rename_i v j k e;have⟨g,n⟩:=QN a e;have⟨i,p⟩:=f h;refine⟨max g i,λc d=>?_⟩
  grind [vH]
def Yi(a:yA call F){c:List (Nat × bN)}{l:List KD}{K:bR}{S:G}{r:bR × G}(h:FJ call c l K S=J r):∃m,∀b,m<=b->FJ (F b) c l K S=J r:=by
 unfold FJ at h;split at h;·cases h
 rename_i f g k j e;have⟨m,i⟩:=Yh a _ e;refine⟨m,λb d=>?_⟩
 grind [FJ]
def wQ(d:yA call F):∀(n:Nat){c:KC}{K:bR}{S:G}{r:Out × bR × G},ef call n c K S=J r->∃m,∀j e,m<=j->n<=e->ef (F j) e c K S=J r:=by
 intro n;induction n with
 |zero=>nofun
 |succ n o=>
  intro c K S r h;have v:∀e,n+1<=e->∃k,e=k+1/\n<=k:=λe h=>⟨e -1,by omega,by omega⟩;cases c with
  |skip=>exact⟨0,λj e _ i=>by obtain⟨k,rfl,_⟩:=v e i;exact h⟩
  |ret=>exact⟨0,λj e _ i=>by obtain⟨k,rfl,_⟩:=v e i;exact h⟩
  |exit id=>exact⟨0,λj e _ i=>by obtain⟨k,rfl,_⟩:=v e i;exact h⟩
  |draw y l=>
   simp only[ef]at h;split at h;case h_2=>cases h
   rename_i t u q;have⟨m,A⟩:=Yi d q;refine⟨m,λj e f i=>?_⟩
   grind [ef]
  |ops l=>
   simp only[ef]at h;split at h;case h_2=>cases h
   rename_i t u q;have⟨m,A⟩:=Yg d _ q;refine⟨m,λj e f i=>?_⟩
   grind [ef]
  |Q a b=>
   simp only[ef]at h;split at h
   ·rename_i t u q
    have⟨g,p⟩:=o q;have⟨w,z⟩:=o h;refine⟨max g w,λj e f i=>?_⟩
    grind [ef]
   ·rename_i s
    have⟨g,p⟩:=o h;refine⟨g,λj e f i=>?_⟩
    grind [ef]
  |cond x a b=>
   simp only[ef]at h;split at h
   ·rename_i B
    have⟨g,p⟩:=o h;refine⟨g,λj e f i=>?_⟩
    grind [ef]
   ·rename_i B
    have⟨g,p⟩:=o h;refine⟨g,λj e f i=>?_⟩
    grind [ef]
   ·cases h
  |block id b=>
   simp only[ef]at h;split at h
   ·rename_i C t u q
    have⟨g,p⟩:=o q;refine⟨g,λj e f i=>?_⟩
    grind [ef]
   ·rename_i s
    have⟨g,p⟩:=o h;refine⟨g,λj e f i=>?_⟩
    grind [ef]
  |L b=>
   simp only[ef]at h;split at h
   ·rename_i t u q
    have⟨g,p⟩:=o q;have⟨w,z⟩:=o h;refine⟨max g w,λj e f i=>?_⟩
    grind [ef]
   ·rename_i s
    have⟨g,p⟩:=o h;refine⟨g,λj e f i=>?_⟩
    grind [ef]
  |dJ l b=>
   simp only[ef]at h;have⟨g,p⟩:=o h;refine⟨g,λj e f i=>?_⟩
   grind [ef]
  |cJ l b=>
   simp only[ef]at h;have⟨g,p⟩:=o h;refine⟨g,λj e f i=>?_⟩
   grind [ef]
  |scope b=>
   simp only[ef]at h;have⟨g,p⟩:=o h;refine⟨g,λj e f i=>?_⟩
   grind [ef]
  |Z5=>exact⟨0,λj e _ i=>by obtain⟨k,rfl,_⟩:=v e i;exact h⟩
  |bad=>trivial
  |M5 y l k=>
   simp only[ef]at h;have⟨g,p⟩:=o h;refine⟨g,λj e f i=>?_⟩
   grind [ef]
end
section
variable{aG:db->Option KF}{nk:NK}
def vJ(aG:db->Option KF)(run:KC->bR->G->Option (Out × bR × G)):cp:=λf args S=>
 match aG f with
 |none=>Z
 |some k=>if k.nt<args.length then Z else match run k.body ⟨vI 0 args,[],S.length⟩ S with
  |some (.E _,_,_)=>Z
  |some (_,K,S')=>match CP K S' k.res with
   |none=>Z
   |some vs=>cd f K.ab vs S S'
  |none=>Z
theorem Be(n:Nat)(f:db)(args:bN)(S:G):uT aG nk (n+1) f args S=vJ aG (ef (kU nk (uT aG nk n)) n) f args S:=rfl
def xJ{b a:KC->bR->G->Option (Out × bR × G)}(h:∀c K S r,b c K S=J r->a c K S=J r)(f:db)(args:bN)(S:G)(r:H × G)(e:vJ aG b f args S=J r):vJ aG a f args S=J r:=by grind [vJ]
def JM:∀(n m:Nat),n<=m->∀f args S r,uT aG nk n f args S=J r->uT aG nk m f args S=J r:=by
 intro n;induction n with
 |zero=>nofun
 |succ n e=>
  intro m g f args S r h;obtain⟨k,rfl⟩:∃k,m=k+1:=⟨m -1,by omega⟩;rw[Be]at h⊢;refine xJ (λc a S r d=>?_) _ _ _ _ h;have⟨m,b⟩:=wQ (DX nk (F:=λ_=>uT aG nk k) λf args S r h=>⟨0,λ_ _=>e k D f args S r h⟩) n d;exact b m k (eI _) D
noncomputable def DF(aG:db->Option KF)(nk:NK):cp:=λf args S=>lim λn=>uT aG nk n f args S
noncomputable def DC(aG:db->Option KF)(nk:NK)(c:KC)(K:bR)(S:G):Option (Out × bR × G):=lim λn=>ef (kU nk (DF aG nk)) n c K S
def ue{f:db}{args:bN}{S:G}(r:H × G):DF aG nk f args S=J r↔∃n,uT aG nk n f args S=J r:=
 M8 (λn m a h=>JM n m h f args S a) r
def UC:yA (DF aG nk) (λn=>uT aG nk n):=by intro f a S r h;have⟨n,c⟩:=(ue r).1 h;exact⟨n,λd b=>JM n d b f a S r c⟩
def M9(call:cp):yA call (λ_=>call):=λ_ _ _ _ h=>⟨0,λ_ _=>h⟩
theorem Bf{call:cp}{n m:Nat}{c:KC}{K:bR}{S:G}{r:Out × bR × G}(h:n<=m)(e:ef call n c K S=J r):ef call m c K S=J r:=by have⟨k,a⟩:=wQ (M9 call) n e;exact a k m (eI _) h
theorem gF{c:KC}{K:bR}{S:G}(r:Out × bR × G):DC aG nk c K S=J r↔∃n,ef (kU nk (DF aG nk)) n c K S=J r:=
 M8 (λ_ _ _ h e=>Bf h e) r
theorem afx(f:db)(args:bN)(S:G):DF aG nk f args S=vJ aG (DC aG nk) f args S:=by
 apply xI;intro r;rw[ue];constructor
 ·rintro⟨n,h⟩
  cases n with
  |zero=>trivial
  |succ n=>
   rw[Be]at h;refine xJ (λc a S r b=>?_) _ _ _ _ h;have⟨m,d⟩:=wQ (DX nk (F:=λ_=>DF aG nk) λf args S r h=>⟨0,λ_ _=>(ue r).2 ⟨n,h⟩⟩) n b;exact(gF _).2 ⟨n,d m n (eI _) (eI _)⟩
 ·intro h
  unfold vJ at h;cases e:aG f with
  |none=>simp_all
  |some k=>
   simp only[e]at h;split at h;·cases h
   rename_i i;cases b:DC aG nk k.body ⟨vI 0 args,[],S.length⟩ S with
   |none=>simp_all
   |some x=>
    have⟨n,g⟩:=(gF x).1 b;have⟨m,d⟩:=wQ (DX nk UC) n g;refine⟨max m n+1, ?_⟩
    grind [Be,vJ]
def E5(x:Option (Out × bR × G))(k:bR->G->Option (Out × bR × G)):Option (Out × bR × G):=
 match x with
 |some (.normal,E,S)=>k E S
 |r=>r
@[simp]def Yj(E:bR)(S:G)(k):E5 (J (.normal,E,S)) k=k E S:=rfl
@[simp]def ad2(E:bR)(S:G)(k):E5 (J (.R,E,S)) k=J (.R,E,S):=rfl
@[simp]def abu(id:Nat)(E:bR)(S:G)(k):E5 (J (.E id,E,S)) k=J (.E id,E,S):=rfl
@[simp]def abv(k):E5 Z k=Z:=rfl
def wg(id:Nat)(x:Option (Out × bR × G)):Option (Out × bR × G):=
 match x with
 |some (.E T4,E,S)=>if T4=id then J (.normal,E,S)else J (.E T4,E,S)
 |r=>r
@[simp]def XJ(id:Nat)(E:bR)(S:G):wg id (J (.normal,E,S))=J (.normal,E,S):=rfl
@[simp]def abw(id:Nat)(E:bR)(S:G):wg id (J (.R,E,S))=J (.R,E,S):=rfl
@[simp]theorem E6(id a:Nat)(E:bR)(S:G):wg id (J (.E a,E,S))=if a=id then J (.normal,E,S)else J (.E a,E,S):=rfl
@[simp]def Z6(id:Nat):wg id Z=Z:=rfl
def wR(x:Option (bR × G)):Option (Out × bR × G):=
 match x with
 |some (E,S)=>J (.normal,E,S)
 |none=>Z
@[simp]def ad3(E:bR)(S:G):wR (J (E,S))=J (.normal,E,S):=rfl
@[simp]def ad4:wR Z=Z:=rfl
def QO{α:Type}(v:H)(x y:Option α):Option α:=
 match v with
 |.B Y=>x
 |.B O=>y
 |_=>Z
@[simp]def abx{α:Type}(b:Bool)(x y:Option α):QO (.B b) x y=if b then x else y:=by cases b<;>rfl
def Yk(E:bR)(S:G):DC aG nk .skip E S=J (.normal,E,S):=(gF _).2 ⟨1,rfl⟩
def aby(E:bR)(S:G):DC aG nk .ret E S=J (.R,E,S):=(gF _).2 ⟨1,rfl⟩
def Yl(id:Nat)(E:bR)(S:G):DC aG nk (.exit id) E S=J (.E id,E,S):=(gF _).2 ⟨1,rfl⟩
def Ge{c:KC}{E:bR}{S:G}{x:Option (Out × bR × G)}(h:∀n,ef (kU nk (DF aG nk)) (n+1) c E S=x):DC aG nk c E S=x:=by
 apply xI;intro r;rw[gF];constructor
 ·rintro⟨n,a⟩
  rw[<-h n];exact Bf (Nat.le_succ n) a
 ·intro b
  exact⟨1,by simp_all⟩
def Ym(a:List (Nat × bN))(l:List KD)(E:bR)(S:G):DC aG nk (.draw a l) E S=wR (FJ (kU nk (DF aG nk)) a l E S):=by apply Ge;intro n;rfl
def abz(l:List KO)(E:bR)(S:G):DC aG nk (.ops l) E S=wR (qo (kU nk (DF aG nk)) l E S):=by apply Ge;intro n;rfl
def G3{x:Option (Out × bR × G)}{k:bR->G->Option (Out × bR × G)}{r:Out × bR × G}:E5 x k=J r↔(∃E S,x=J (.normal,E,S)/\k E S=J r)\/(r.1≠.normal/\x=J r):=by
 cases x with
 |none=>simp
 |some y=>
  have⟨o,E,S⟩:=y;constructor
  ·intro h
   cases o with
   |normal=>exact .inl ⟨E,S,rfl,h⟩
   |R=>cases h;simp
   |E id=>cases h;simp
  ·rintro(⟨E1,S1,h1,h2⟩|⟨h1,h2⟩)
   ·simp_all
   ·cases h2
    cases o<;>trivial
def abA(a b:KC)(E:bR)(S:G):DC aG nk (.Q a b) E S=E5 (DC aG nk a E S) λc d=>DC aG nk b c d:=by
 apply xI;intro r;rw[gF,G3];constructor
 ·rintro⟨n,h⟩
  cases n<;>grind [ef,gF]
 ·rintro(⟨E1,S1,h1,h2⟩|⟨h1,h2⟩)
  ·have⟨n,e⟩:=(gF _).1 h1
   have⟨m,f⟩:=(gF _).1 h2;refine⟨max n m+1, ?_⟩
   grind [ef,Bf,Nat.le_max_right]
  ·have⟨n,e⟩:=(gF _).1 h2
   refine⟨n+1, ?_⟩
   grind [ef]
def Yn(b:KC)(E:bR)(S:G):DC aG nk (.L b) E S=E5 (DC aG nk b E S) λa c=>DC aG nk (.L b) a c:=by
 apply xI;intro r;rw[gF,G3];constructor
 ·rintro⟨n,h⟩
  cases n<;>grind [ef,gF]
 ·rintro(⟨E1,S1,h1,h2⟩|⟨h1,h2⟩)
  ·have⟨n,d⟩:=(gF _).1 h1
   have⟨m,e⟩:=(gF _).1 h2;refine⟨max n m+1, ?_⟩
   grind [ef,Bf,Nat.le_max_right]
  ·have⟨n,d⟩:=(gF _).1 h2
   refine⟨n+1, ?_⟩
   grind [ef]
def Yo(x:KV)(a b:KC)(E:bR)(S:G):DC aG nk (.cond x a b) E S=QO (KE.ev E.sl x) (DC aG nk a E S) (DC aG nk b E S):=by
 apply xI;intro r;rw[gF];constructor
 ·rintro⟨n,h⟩
  cases n with
  |zero=>trivial
  |succ n=>
   simp only[ef]at h;split at h
   ·rename_i c
    rw[c];exact(gF _).2 ⟨n,h⟩
   ·rename_i c
    rw[c];exact(gF _).2 ⟨n,h⟩
   ·cases h
 ·intro h
  unfold QO at h;split at h
  ·rename_i c
   have⟨n,d⟩:=(gF _).1 h;exact⟨n+1,by simp only[ef,c];exact d⟩
  ·rename_i c
   have⟨n,d⟩:=(gF _).1 h;exact⟨n+1,by simp only[ef,c];exact d⟩
  ·cases h
def M_{id:Nat}{x:Option (Out × bR × G)}{r:Out × bR × G}:wg id x=J r↔(∃a E S,x=J (.E a,E,S)/\r=(if a=id then(.normal,E,S)else(.E a,E,S)))\/((∀a,r.1≠.E a)/\x=J r):=by
 cases x with
 |none=>simp
 |some y=>
  have⟨o,E,S⟩:=y;constructor
  ·intro h
   cases o with
   |normal=>cases h;simp
   |R=>cases h;simp
   |E a=>
    refine .inl ⟨a,E,S,rfl, ?_⟩
    grind [E6]
  ·rintro(⟨a,E1,S1,h1,h2⟩|⟨h1,h2⟩)
   ·grind [E6]
   ·cases h2
    cases o<;>simp_all
def UD(id:Nat)(b:KC)(E:bR)(S:G):DC aG nk (.block id b) E S=wg id (DC aG nk b E S):=by
 apply xI;intro r;rw[gF,M_];constructor
 ·rintro⟨n,h⟩
  cases n with
  |zero=>simp[ef]at h
  |succ n=>
   simp only[ef]at h;split at h
   ·rename_i a d f c
    refine .inl ⟨a,d,f,(gF _).2 ⟨n,c⟩, ?_⟩;split at h<;>rename_i j<;>simp[j]<;>simpa using h.symm
   ·rename_i i
    refine .inr ⟨λa e=>?_,(gF _).2 ⟨n,h⟩⟩;have⟨o,d,f⟩:=r;cases e;exact i _ _ _ h
 ·rintro(⟨a,d,f,c,rfl⟩|⟨c,h2⟩)
  ·have⟨n,g⟩:=(gF _).1 c
   refine⟨n+1, ?_⟩;simp only[ef,g];split<;>rfl
  ·have⟨n,g⟩:=(gF _).1 h2
   refine⟨n+1, ?_⟩;simp only[ef,g];have⟨o,d,f⟩:=r;cases o with
   |E a=>exact absurd rfl (c a)
   |_=>rfl
def QP{c d:KC}{K b:bR}{S:G}(h:∀n,ef (kU nk (DF aG nk)) (n+1) c K S=ef (kU nk (DF aG nk)) n d b S):DC aG nk c K S=DC aG nk d b S:=by
 apply xI;intro r;rw[gF,gF];constructor
 ·rintro⟨n,a⟩
  cases n with
  |zero=>simp[ef]at a
  |succ n=>exact⟨n,by rw[<-h n];exact a⟩
 ·rintro⟨n,a⟩
  exact⟨n+1,by rw[h n];exact a⟩
def Yp(l:List Nat)(k:KC)(K:bR)(S:G):DC aG nk (.dJ l k) K S=DC aG nk k (K.dJ l) S:=QP λn=>rfl
def UE(b:KC)(K:bR)(S:G):DC aG nk (.scope b) K S=DC aG nk b K S:=QP λn=>rfl
def Yq(a:List (Nat × bN))(l:List KD)(k:List KO)(K:bR)(S:G):DC aG nk (.M5 a l k) K S=DC aG nk (.Q (.draw a l) (.ops k)) K S:=QP λn=>rfl
def abB(K:bR)(S:G):DC aG nk .Z5 K S=J (.normal,K,S):=Ge λn=>rfl
def abC(K:bR)(S:G):DC aG nk .bad K S=Z:=Ge λn=>rfl
def Yr(l:List Nat)(k:KC)(K:bR)(S:G):DC aG nk (.cJ l k) K S=DC aG nk k (K.cJ l) S:=QP λn=>rfl
end
end
section
variable{aG:db->Option KF}{nk nk':NK}
def TZ{f:db}(h:aG f=Z)(n:Nat)(args:List H)(S:G):uT aG nk n f args S=Z:=by
 cases n with
 |zero=>rfl
 |succ n=>simp[uT,h]
def Xx(g:∀f,nk'.dJ f=nk.dJ f)(i:∀f p,nk.j6 f=J p->nk'.j6 f=J p)(j:∀f p,nk.j6 f=Z->nk'.j6 f=J p->aG f=Z):
 ∀n f args S r,uT aG nk n f args S=J r->uT aG nk' n f args S=J r:=by
 intro n;induction n with
 |zero=>intro f args S r h;simp[uT]at h
 |succ n l=>
  intro f args S r h;rw[Be]at h⊢;refine xJ (λc a S r k=>?_) _ _ _ _ h
  have T:yA (kU nk (uT aG nk n)) (λ_=>kU nk' (uT aG nk' n)):=by
   intro f args S r h;refine⟨0,λ_ _=>?_⟩;unfold kU at h⊢;cases b:nk.j6 f with
   |some p=>simp only[b]at h;simp only[i f p b];exact h
   |none=>
    simp only[b]at h;cases e:nk'.j6 f with
    |some p=>rw[TZ (j f p b e)]at h;cases h
    |none=>simp only[g f,e];exact l f _ S r h
  obtain⟨m,d⟩:=wQ T n k;exact d m n (eI _) (eI _)
def adB(a:∀f,nk'.dJ f=nk.dJ f)(b:∀f p,nk.j6 f=J p->nk'.j6 f=J p)(c:∀f p,nk.j6 f=Z->nk'.j6 f=J p->aG f=Z){f:db}{args:List H}{S:G}{r:H × G}(h:DF aG nk f args S=J r):DF aG nk' f args S=J r:=by obtain⟨n,d⟩:=(ue r).1 h;exact(ue r).2 ⟨n,Xx a b c n f args S r d⟩
end
end Go.Proofs.YteipnkjhnbaipaaGreatDoor.am
