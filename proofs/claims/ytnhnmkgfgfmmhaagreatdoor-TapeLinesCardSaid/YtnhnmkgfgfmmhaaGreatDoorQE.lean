/- Parts. No condition. -/
import Derived.Test.YtnhnmkgfgfmmhaaGreatDoorQC
set_option linter.all false
namespace Go.Proofs.YtnhnmkgfgfmmhaaGreatDoor.am
open Go
open Option renaming some->J,none->D
open Bool renaming false->O,true->Y
open Go renaming FuncId->db
open Nat renaming le_refl->eE
open Go.Proofs.YtnhnmkgfgfmmhaaGreatDoor.am renaming om->Z,St->G,AV->H
section
noncomputable def lim{α:Type}(f:Nat->Option α):Option α:=
 open Classical in if h:∃a n,f n=J a then J (Classical.choose h)else D
def KA{α:Type}{f:Nat->Option α}(b:∀n m a,n<=m->f n=J a->f m=J a)(a:α):lim f=J a↔∃n,f n=J a:=by
 unfold lim;constructor
 ·intro h
  split at h;all_goals grind
 ·rintro⟨n,c⟩
  have d:∃a n,f n=J a:=⟨a,n,c⟩
  grind
def vU{α:Type}{x y:Option α}(h:∀a,x=J a↔y=J a):x=y:=by
 cases b:x with
 |some a=>grind
 |none=>cases c:y<;>simp_all
def wO(call:cd)(F:Nat->cd):Prop:=∀f args S r,call f args S=J r->∃m,∀m',m<=m'->F m' f args S=J r
section
variable{call:cd}{F:Nat->cd}
def Ca(nk:NK)(a:wO call F):wO (lW nk call) (λn=>lW nk (F n)):=by
 intro f b S r h;unfold lW at h⊢;cases c:nk.jQ f with
 |some p=>simp_all
 |none=>simp only[c]at h⊢;exact a f _ S r h
def MT(a:wO call F){ad:bY}{S:G}{f:H}{args:bE}{r:H × bY × G}(h:wN call ad S f args=J r):∃m,∀c,m<=c->wN (F c) ad S f args=J r:=by
 unfold wN at h;split at h;·cases h
 rename_i o d p;split at h
 ·rename_i i
  split at h;·cases h
  rename_i b k;split at h;·cases h
  rename_i n j g;have⟨m,l⟩:=a _ _ _ _ g;refine⟨m,λc e=>?_⟩
  grind [wN]
 ·rename_i i
  split at h;·cases h
  rename_i b k;split at h;·cases h
  rename_i n j g;have⟨m,l⟩:=a _ _ _ _ g;refine⟨m,λc e=>?_⟩
  grind [wN]
def Vb(a:wO call F){K:bB}{S:G}{o:AP}{r:H × bY × G}(h:jj call K S o=J r):∃m,∀c,m<=c->jj (F c) K S o=J r:=by
 cases o with
 |call f b=>exact MT a h
 |_=>exact⟨0,λ_ _=>h⟩
def Of(a:wO call F){K:bB}{S:G}{o:KO}{r:H × bB × G}(h:B9 call K S o=J r):∃m,∀b,m<=b->B9 (F b) K S o=J r:=by
 unfold B9 at h;split at h
 ·rename_i j
  split at h;case h_2=>cases h
  rename_i v c g e;have⟨f,i⟩:=Vb a e;refine⟨f,λb d=>?_⟩
  grind [B9]
 all_goals simp_all[B9]
def Vc(a:wO call F):∀(l:List KO){K:bB}{S:G}{r:bB × G},oZ call l K S=J r->∃m,∀b,m<=b->oZ (F b) l K S=J r:=by
 intro l;induction l with
 |nil=>intro K S r h;exact⟨0,λ_ _=>h⟩
 |cons o l e=>
  intro K S r h;simp only[oZ]at h;split at h;case h_2=>cases h
  rename_i v i j d;have⟨f,k⟩:=Of a d;have⟨g,n⟩:=e h;refine⟨max f g,λb c=>?_⟩
  grind [oZ]
def Vd(a:wO call F):∀(l:List KD){K:bB}{S:G}{b:List G}{ls:List xx}{r:bB × G × List G × List xx},tL call l K S b ls=J r->∃m,∀c,m<=c->tL (F c) l K S b ls=J r:=by
 intro l;induction l with
 |nil=>intro K S b ls r h;exact⟨0,λ_ _=>h⟩
 |cons o l f=>
  intro K S b ls r h;simp only[tL]at h;split at h;case h_2=>cases h
  rename_i v j k e;have⟨g,n⟩:=Of a e;have⟨i,p⟩:=f h;refine⟨max g i,λc d=>?_⟩
  grind [tL]
def Ve(a:wO call F){c:List (Nat × bE)}{l:List KD}{K:bB}{S:G}{r:bB × G}(h:DI call c l K S=J r):∃m,∀b,m<=b->DI (F b) c l K S=J r:=by
 unfold DI at h;split at h;·cases h
 rename_i f g k j e;have⟨m,i⟩:=Vd a _ e;refine⟨m,λb d=>?_⟩
 grind [DI]
def uT(d:wO call F):∀(n:Nat){c:KC}{K:bB}{S:G}{r:Out × bB × G},dE call n c K S=J r->∃m,∀j e,m<=j->n<=e->dE (F j) e c K S=J r:=by
 intro n;induction n with
 |zero=>nofun
 |succ n o=>
  intro c K S r h;have v:∀e,n+1<=e->∃k,e=k+1/\n<=k:=λe h=>⟨e -1,by omega,by omega⟩;cases c with
  |skip=>exact⟨0,λj e _ i=>by obtain⟨k,rfl,_⟩:=v e i;exact h⟩
  |ret=>exact⟨0,λj e _ i=>by obtain⟨k,rfl,_⟩:=v e i;exact h⟩
  |exit id=>exact⟨0,λj e _ i=>by obtain⟨k,rfl,_⟩:=v e i;exact h⟩
  |draw y l=>
   simp only[dE]at h;split at h;case h_2=>cases h
   rename_i t u q;have⟨m,A⟩:=Ve d q;refine⟨m,λj e f i=>?_⟩
   grind [dE]
  |ops l=>
   simp only[dE]at h;split at h;case h_2=>cases h
   rename_i t u q;have⟨m,A⟩:=Vc d _ q;refine⟨m,λj e f i=>?_⟩
   grind [dE]
  |Q a b=>
   simp only[dE]at h;split at h
   ·rename_i t u q
    have⟨g,p⟩:=o q;have⟨w,z⟩:=o h;refine⟨max g w,λj e f i=>?_⟩
    grind [dE]
   ·rename_i s
    have⟨g,p⟩:=o h;refine⟨g,λj e f i=>?_⟩
    grind [dE]
  |cond x a b=>
   simp only[dE]at h;split at h
   ·rename_i B
    have⟨g,p⟩:=o h;refine⟨g,λj e f i=>?_⟩
    grind [dE]
   ·rename_i B
    have⟨g,p⟩:=o h;refine⟨g,λj e f i=>?_⟩
    grind [dE]
   ·cases h
  |block id b=>
   simp only[dE]at h;split at h
   ·rename_i C t u q
    have⟨g,p⟩:=o q;refine⟨g,λj e f i=>?_⟩
    grind [dE]
   ·rename_i s
    have⟨g,p⟩:=o h;refine⟨g,λj e f i=>?_⟩
    grind [dE]
  |L b=>
   simp only[dE]at h;split at h
   ·rename_i t u q
    have⟨g,p⟩:=o q;have⟨w,z⟩:=o h;refine⟨max g w,λj e f i=>?_⟩
    grind [dE]
   ·rename_i s
    have⟨g,p⟩:=o h;refine⟨g,λj e f i=>?_⟩
    grind [dE]
  |ds l b=>
   simp only[dE]at h;have⟨g,p⟩:=o h;refine⟨g,λj e f i=>?_⟩
   grind [dE]
  |cR l b=>
   simp only[dE]at h;have⟨g,p⟩:=o h;refine⟨g,λj e f i=>?_⟩
   grind [dE]
  |scope b=>
   simp only[dE]at h;have⟨g,p⟩:=o h;refine⟨g,λj e f i=>?_⟩
   grind [dE]
  |WQ=>exact⟨0,λj e _ i=>by obtain⟨k,rfl,_⟩:=v e i;exact h⟩
  |bad=>trivial
  |Kv y l k=>
   simp only[dE]at h;have⟨g,p⟩:=o h;refine⟨g,λj e f i=>?_⟩
   grind [dE]
end
section
variable{aC:db->Option KF}{nk:NK}
def tR(aC:db->Option KF)(run:KC->bB->G->Option (Out × bB × G)):cd:=λf args S=>
 match aC f with
 |none=>D
 |some k=>if k.nt<args.length then D else match run k.body ⟨tM 0 args,[],S.length⟩ S with
  |some (.E _,_,_)=>D
  |some (_,K,S')=>match Bg K S' k.res with
   |none=>D
   |some vs=>bZ f K.ad vs S S'
  |none=>D
theorem zu(n:Nat)(f:db)(args:bE)(S:G):tB aC nk (n+1) f args S=tR aC (dE (lW nk (tB aC nk n)) n) f args S:=rfl
def vV{b a:KC->bB->G->Option (Out × bB × G)}(h:∀c K S r,b c K S=J r->a c K S=J r)(f:db)(args:bE)(S:G)(r:H × G)(e:tR aC b f args S=J r):tR aC a f args S=J r:=by grind [tR]
def Hs:∀(n m:Nat),n<=m->∀f args S r,tB aC nk n f args S=J r->tB aC nk m f args S=J r:=by
 intro n;induction n with
 |zero=>nofun
 |succ n e=>
  intro m g f args S r h;obtain⟨k,rfl⟩:∃k,m=k+1:=⟨m -1,by omega⟩;rw[zu]at h⊢;refine vV (λc a S r d=>?_) _ _ _ _ h;have⟨m,b⟩:=uT (Ca nk (F:=λ_=>tB aC nk k) λf args S r h=>⟨0,λ_ _=>e k Z f args S r h⟩) n d;exact b m k (eE _) Z
noncomputable def DF(aC:db->Option KF)(nk:NK):cd:=λf args S=>lim λn=>tB aC nk n f args S
noncomputable def DC(aC:db->Option KF)(nk:NK)(c:KC)(K:bB)(S:G):Option (Out × bB × G):=lim λn=>dE (lW nk (DF aC nk)) n c K S
def vW{f:db}{args:bE}{S:G}(r:H × G):DF aC nk f args S=J r↔∃n,tB aC nk n f args S=J r:=
 KA (λn m a h=>Hs n m h f args S a) r
def Ru:wO (DF aC nk) (λn=>tB aC nk n):=by intro f a S r h;have⟨n,c⟩:=(vW r).1 h;exact⟨n,λd b=>Hs n d b f a S r c⟩
def KB(call:cd):wO call (λ_=>call):=λ_ _ _ _ h=>⟨0,λ_ _=>h⟩
theorem zv{call:cd}{n m:Nat}{c:KC}{K:bB}{S:G}{r:Out × bB × G}(h:n<=m)(e:dE call n c K S=J r):dE call m c K S=J r:=by have⟨k,a⟩:=uT (KB call) n e;exact a k m (eE _) h
theorem fW{c:KC}{K:bB}{S:G}(r:Out × bB × G):DC aC nk c K S=J r↔∃n,dE (lW nk (DF aC nk)) n c K S=J r:=
 KA (λ_ _ _ h e=>zv h e) r
theorem ab9(f:db)(args:bE)(S:G):DF aC nk f args S=tR aC (DC aC nk) f args S:=by
 apply vU;intro r;rw[vW];constructor
 ·rintro⟨n,h⟩
  cases n with
  |zero=>trivial
  |succ n=>
   rw[zu]at h;refine vV (λc a S r b=>?_) _ _ _ _ h;have⟨m,d⟩:=uT (Ca nk (F:=λ_=>DF aC nk) λf args S r h=>⟨0,λ_ _=>(vW r).2 ⟨n,h⟩⟩) n b;exact(fW _).2 ⟨n,d m n (eE _) (eE _)⟩
 ·intro h
  unfold tR at h;cases e:aC f with
  |none=>simp_all
  |some k=>
   simp only[e]at h;split at h;·cases h
   rename_i i;cases b:DC aC nk k.body ⟨tM 0 args,[],S.length⟩ S with
   |none=>simp_all
   |some x=>
    have⟨n,g⟩:=(fW x).1 b;have⟨m,d⟩:=uT (Ca nk Ru) n g;refine⟨max m n+1, ?_⟩
    grind [zu,tR]
def Db(x:Option (Out × bB × G))(k:bB->G->Option (Out × bB × G)):Option (Out × bB × G):=
 match x with
 |some (.normal,E,S)=>k E S
 |r=>r
@[simp]def Vf(E:bB)(S:G)(k):Db (J (.normal,E,S)) k=k E S:=rfl
@[simp]def aaC(E:bB)(S:G)(k):Db (J (.R,E,S)) k=J (.R,E,S):=rfl
@[simp]def Yk(id:Nat)(E:bB)(S:G)(k):Db (J (.E id,E,S)) k=J (.E id,E,S):=rfl
@[simp]def Yl(k):Db D k=D:=rfl
def ur(id:Nat)(x:Option (Out × bB × G)):Option (Out × bB × G):=
 match x with
 |some (.E QR,E,S)=>if QR=id then J (.normal,E,S)else J (.E QR,E,S)
 |r=>r
@[simp]def UJ(id:Nat)(E:bB)(S:G):ur id (J (.normal,E,S))=J (.normal,E,S):=rfl
@[simp]def Ym(id:Nat)(E:bB)(S:G):ur id (J (.R,E,S))=J (.R,E,S):=rfl
@[simp]theorem Dc(id a:Nat)(E:bB)(S:G):ur id (J (.E a,E,S))=if a=id then J (.normal,E,S)else J (.E a,E,S):=rfl
@[simp]def WR(id:Nat):ur id D=D:=rfl
def uU(x:Option (bB × G)):Option (Out × bB × G):=
 match x with
 |some (E,S)=>J (.normal,E,S)
 |none=>D
@[simp]def aaD(E:bB)(S:G):uU (J (E,S))=J (.normal,E,S):=rfl
@[simp]def aaE:uU D=D:=rfl
def Og{α:Type}(v:H)(x y:Option α):Option α:=
 match v with
 |.B Y=>x
 |.B O=>y
 |_=>D
@[simp]def Yn{α:Type}(b:Bool)(x y:Option α):Og (.B b) x y=if b then x else y:=by cases b<;>rfl
def Vg(E:bB)(S:G):DC aC nk .skip E S=J (.normal,E,S):=(fW _).2 ⟨1,rfl⟩
def Yo(E:bB)(S:G):DC aC nk .ret E S=J (.R,E,S):=(fW _).2 ⟨1,rfl⟩
def Vh(id:Nat)(E:bB)(S:G):DC aC nk (.exit id) E S=J (.E id,E,S):=(fW _).2 ⟨1,rfl⟩
def Eb{c:KC}{E:bB}{S:G}{x:Option (Out × bB × G)}(h:∀n,dE (lW nk (DF aC nk)) (n+1) c E S=x):DC aC nk c E S=x:=by
 apply vU;intro r;rw[fW];constructor
 ·rintro⟨n,a⟩
  rw[<-h n];exact zv (Nat.le_succ n) a
 ·intro b
  exact⟨1,by simp_all⟩
def Vi(a:List (Nat × bE))(l:List KD)(E:bB)(S:G):DC aC nk (.draw a l) E S=uU (DI (lW nk (DF aC nk)) a l E S):=by apply Eb;intro n;rfl
def Yp(l:List KO)(E:bB)(S:G):DC aC nk (.ops l) E S=uU (oZ (lW nk (DF aC nk)) l E S):=by apply Eb;intro n;rfl
def E7{x:Option (Out × bB × G)}{k:bB->G->Option (Out × bB × G)}{r:Out × bB × G}:Db x k=J r↔(∃E S,x=J (.normal,E,S)/\k E S=J r)\/(r.1≠.normal/\x=J r):=by
 cases x with
 |none=>simp
 |some y=>
  have⟨o,E,S⟩:=y;constructor
  ·intro h
   cases o with
   |normal=>exact .inl ⟨E,S,rfl,h⟩
   |R=>cases h;simp
   |E id=>cases h;simp
  ·rintro(⟨E1,S1,h1,h2⟩|⟨h1,h2⟩)
   ·simp_all
   ·cases h2
    cases o<;>trivial
def Yq(a b:KC)(E:bB)(S:G):DC aC nk (.Q a b) E S=Db (DC aC nk a E S) λc d=>DC aC nk b c d:=by
 apply vU;intro r;rw[fW,E7];constructor
 ·rintro⟨n,h⟩
  cases n<;>grind [dE,fW]
 ·rintro(⟨E1,S1,h1,h2⟩|⟨h1,h2⟩)
  ·have⟨n,e⟩:=(fW _).1 h1
   have⟨m,f⟩:=(fW _).1 h2;refine⟨max n m+1, ?_⟩
   grind [dE,zv,Nat.le_max_right]
  ·have⟨n,e⟩:=(fW _).1 h2
   refine⟨n+1, ?_⟩
   grind [dE]
def Vj(b:KC)(E:bB)(S:G):DC aC nk (.L b) E S=Db (DC aC nk b E S) λa c=>DC aC nk (.L b) a c:=by
 apply vU;intro r;rw[fW,E7];constructor
 ·rintro⟨n,h⟩
  cases n<;>grind [dE,fW]
 ·rintro(⟨E1,S1,h1,h2⟩|⟨h1,h2⟩)
  ·have⟨n,d⟩:=(fW _).1 h1
   have⟨m,e⟩:=(fW _).1 h2;refine⟨max n m+1, ?_⟩
   grind [dE,zv,Nat.le_max_right]
  ·have⟨n,d⟩:=(fW _).1 h2
   refine⟨n+1, ?_⟩
   grind [dE]
def Vk(x:KV)(a b:KC)(E:bB)(S:G):DC aC nk (.cond x a b) E S=Og (KE.ev E.sl x) (DC aC nk a E S) (DC aC nk b E S):=by
 apply vU;intro r;rw[fW];constructor
 ·rintro⟨n,h⟩
  cases n with
  |zero=>trivial
  |succ n=>
   simp only[dE]at h;split at h
   ·rename_i c
    rw[c];exact(fW _).2 ⟨n,h⟩
   ·rename_i c
    rw[c];exact(fW _).2 ⟨n,h⟩
   ·cases h
 ·intro h
  unfold Og at h;split at h
  ·rename_i c
   have⟨n,d⟩:=(fW _).1 h;exact⟨n+1,by simp only[dE,c];exact d⟩
  ·rename_i c
   have⟨n,d⟩:=(fW _).1 h;exact⟨n+1,by simp only[dE,c];exact d⟩
  ·cases h
def KG{id:Nat}{x:Option (Out × bB × G)}{r:Out × bB × G}:ur id x=J r↔(∃a E S,x=J (.E a,E,S)/\r=(if a=id then(.normal,E,S)else(.E a,E,S)))\/((∀a,r.1≠.E a)/\x=J r):=by
 cases x with
 |none=>simp
 |some y=>
  have⟨o,E,S⟩:=y;constructor
  ·intro h
   cases o with
   |normal=>cases h;simp
   |R=>cases h;simp
   |E a=>
    refine .inl ⟨a,E,S,rfl, ?_⟩
    grind [Dc]
  ·rintro(⟨a,E1,S1,h1,h2⟩|⟨h1,h2⟩)
   ·grind [Dc]
   ·cases h2
    cases o<;>simp_all
def Rv(id:Nat)(b:KC)(E:bB)(S:G):DC aC nk (.block id b) E S=ur id (DC aC nk b E S):=by
 apply vU;intro r;rw[fW,KG];constructor
 ·rintro⟨n,h⟩
  cases n with
  |zero=>simp[dE]at h
  |succ n=>
   simp only[dE]at h;split at h
   ·rename_i a d f c
    refine .inl ⟨a,d,f,(fW _).2 ⟨n,c⟩, ?_⟩;split at h<;>rename_i j<;>simp[j]<;>simpa using h.symm
   ·rename_i i
    refine .inr ⟨λa e=>?_,(fW _).2 ⟨n,h⟩⟩;have⟨o,d,f⟩:=r;cases e;exact i _ _ _ h
 ·rintro(⟨a,d,f,c,rfl⟩|⟨c,h2⟩)
  ·have⟨n,g⟩:=(fW _).1 c
   refine⟨n+1, ?_⟩;simp only[dE,g];split<;>rfl
  ·have⟨n,g⟩:=(fW _).1 h2
   refine⟨n+1, ?_⟩;simp only[dE,g];have⟨o,d,f⟩:=r;cases o with
   |E a=>exact absurd rfl (c a)
   |_=>rfl
def Oh{c d:KC}{K b:bB}{S:G}(h:∀n,dE (lW nk (DF aC nk)) (n+1) c K S=dE (lW nk (DF aC nk)) n d b S):DC aC nk c K S=DC aC nk d b S:=by
 apply vU;intro r;rw[fW,fW];constructor
 ·rintro⟨n,a⟩
  cases n with
  |zero=>simp[dE]at a
  |succ n=>exact⟨n,by rw[<-h n];exact a⟩
 ·rintro⟨n,a⟩
  exact⟨n+1,by rw[h n];exact a⟩
def Vl(l:List Nat)(k:KC)(K:bB)(S:G):DC aC nk (.ds l k) K S=DC aC nk k (K.ds l) S:=Oh λn=>rfl
def Rw(b:KC)(K:bB)(S:G):DC aC nk (.scope b) K S=DC aC nk b K S:=Oh λn=>rfl
def Vm(a:List (Nat × bE))(l:List KD)(k:List KO)(K:bB)(S:G):DC aC nk (.Kv a l k) K S=DC aC nk (.Q (.draw a l) (.ops k)) K S:=Oh λn=>rfl
def Yr(K:bB)(S:G):DC aC nk .WQ K S=J (.normal,K,S):=Eb λn=>rfl
def Ys(K:bB)(S:G):DC aC nk .bad K S=D:=Eb λn=>rfl
def Vn(l:List Nat)(k:KC)(K:bB)(S:G):DC aC nk (.cR l k) K S=DC aC nk k (K.cR l) S:=Oh λn=>rfl
end
end
section
variable{aC:db->Option KF}{nk nk':NK}
def QN{f:db}(h:aC f=D)(n:Nat)(args:List H)(S:G):tB aC nk n f args S=D:=by
 cases n with
 |zero=>rfl
 |succ n=>simp[tB,h]
def Uy(g:∀f,nk'.ds f=nk.ds f)(i:∀f p,nk.jQ f=J p->nk'.jQ f=J p)(j:∀f p,nk.jQ f=D->nk'.jQ f=J p->aC f=D):
 ∀n f args S r,tB aC nk n f args S=J r->tB aC nk' n f args S=J r:=by
 intro n;induction n with
 |zero=>intro f args S r h;simp[tB]at h
 |succ n l=>
  intro f args S r h;rw[zu]at h⊢;refine vV (λc a S r k=>?_) _ _ _ _ h
  have T:wO (lW nk (tB aC nk n)) (λ_=>lW nk' (tB aC nk' n)):=by
   intro f args S r h;refine⟨0,λ_ _=>?_⟩;unfold lW at h⊢;cases b:nk.jQ f with
   |some p=>simp only[b]at h;simp only[i f p b];exact h
   |none=>
    simp only[b]at h;cases e:nk'.jQ f with
    |some p=>rw[QN (j f p b e)]at h;cases h
    |none=>simp only[g f,e];exact l f _ S r h
  obtain⟨m,d⟩:=uT T n k;exact d m n (eE _) (eE _)
def aak(a:∀f,nk'.ds f=nk.ds f)(b:∀f p,nk.jQ f=J p->nk'.jQ f=J p)(c:∀f p,nk.jQ f=D->nk'.jQ f=J p->aC f=D){f:db}{args:List H}{S:G}{r:H × G}(h:DF aC nk f args S=J r):DF aC nk' f args S=J r:=by obtain⟨n,d⟩:=(vW r).1 h;exact(vW r).2 ⟨n,Uy a b c n f args S r d⟩
end
end Go.Proofs.YtnhnmkgfgfmmhaaGreatDoor.am
