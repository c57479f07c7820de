/- Parts. No condition. -/
import Derived.Test.YtiaklhkdbokkhaaGreatQC
set_option linter.all false
namespace Go.Proofs.YtiaklhkdbokkhaaGreat.am
open Go
open Option renaming some->J,none->M
open Bool renaming false->O,true->G
open Nat renaming le_refl->gM
open Go renaming FuncId->eS
open Go.Proofs.YtiaklhkdbokkhaaGreat.am renaming om->V,St->Z,AV->Q,bD->F
section
noncomputable def lim{α:Type}(f:Nat->Option α):Option α:=
 open Classical in if h:∃a n,f n=J a then J (Classical.choose h)else M
def VQ{α:Type}{f:Nat->Option α}(b:∀n m a,n<=m->f n=J a->f m=J a)(a:α):lim f=J a↔∃n,f n=J a:=by
 unfold lim;constructor
 ·intro h
  split at h;all_goals grind
 ·rintro⟨n,c⟩
  have d:∃a n,f n=J a:=⟨a,n,c⟩
  grind
def Cq{α:Type}{x y:Option α}(h:∀a,x=J a↔y=J a):x=y:=by
 cases b:x with
 |some a=>grind
 |none=>cases c:y<;>simp_all
def Ez(call:cP)(F:Nat->cP):Prop:=∀f args S r,call f args S=J r->∃m,∀m',m<=m'->F m' f args S=J r
section
variable{call:cP}{F:Nat->cP}
def Kg(nk:NK)(a:Ez call F):Ez (rG nk call) (λn=>rG nk (F n)):=by
 intro f b S r h;unfold rG at h⊢;cases c:nk.sO f with
 |some p=>simp_all
 |none=>simp only[c]at h⊢;exact a f _ S r h
def YO(a:Ez call F){ag:bV}{S:Z}{f:Q}{args:bD}{r:Q × bV × Z}(h:Dq call ag S f args=J r):∃m,∀c,m<=c->Dq (F c) ag S f args=J r:=by
 unfold Dq at h;split at h;·cases h
 rename_i o d p;split at h
 ·rename_i i
  split at h;·cases h
  rename_i b k;split at h;·cases h
  rename_i n j g;have⟨m,l⟩:=a _ _ _ _ g;refine⟨m,λc e=>?_⟩
  grind [Dq]
 ·rename_i i
  split at h;·cases h
  rename_i b k;split at h;·cases h
  rename_i n j g;have⟨m,l⟩:=a _ _ _ _ g;refine⟨m,λc e=>?_⟩
  grind [Dq]
def aku(a:Ez call F){K:bQ}{S:Z}{o:GX}{r:Q × bV × Z}(h:mZ call K S o=J r):∃m,∀c,m<=c->mZ (F c) K S o=J r:=by
 cases o with
 |call f b=>exact YO a h
 |_=>exact⟨0,λ_ _=>h⟩
def aaX(a:Ez call F){K:bQ}{S:Z}{o:KO}{r:Q × bQ × Z}(h:Ke call K S o=J r):∃m,∀b,m<=b->Ke (F b) K S o=J r:=by
 unfold Ke at h;split at h
 ·rename_i j
  split at h;case h_2=>cases h
  rename_i v c g e;have⟨f,i⟩:=aku a e;refine⟨f,λb d=>?_⟩
  grind [Ke]
 all_goals simp_all[Ke]
def akv(a:Ez call F):∀(l:List KO){K:bQ}{S:Z}{r:bQ × Z},ue call l K S=J r->∃m,∀b,m<=b->ue (F b) l K S=J r:=by
 intro l;induction l with
 |nil=>intro K S r h;exact⟨0,λ_ _=>h⟩
 |cons o l e=>
  intro K S r h;simp only[ue]at h;split at h;case h_2=>cases h
  rename_i v i j d;have⟨f,k⟩:=aaX a d;have⟨g,n⟩:=e h;refine⟨max f g,λb c=>?_⟩
  grind [ue]
def akw(a:Ez call F):∀(l:List KD){K:bQ}{S:Z}{b:List Z}{ls:List Ee}{r:bQ × Z × List Z × List Ee},Aq call l K S b ls=J r->∃m,∀c,m<=c->Aq (F c) l K S b ls=J r:=by
 intro l;induction l with
 |nil=>intro K S b ls r h;exact⟨0,λ_ _=>h⟩
 |cons o l f=>
  intro K S b ls r h;simp only[Aq]at h;split at h;case h_2=>cases h
  rename_i v j k e;have⟨g,n⟩:=aaX a e;have⟨i,p⟩:=f h;refine⟨max g i,λc d=>?_⟩
  grind [Aq]
def akx(a:Ez call F){c:List (Nat × bD)}{l:List KD}{K:bQ}{S:Z}{r:bQ × Z}(h:Ms call c l K S=J r):∃m,∀b,m<=b->Ms (F b) c l K S=J r:=by
 unfold Ms at h;split at h;·cases h
 rename_i f g k j e;have⟨m,i⟩:=akw a _ e;refine⟨m,λb d=>?_⟩
 grind [Ms]
def Gy(d:Ez call F):∀(n:Nat){c:KC}{K:bQ}{S:Z}{r:Out × bQ × Z},eZ call n c K S=J r->∃m,∀j e,m<=j->n<=e->eZ (F j) e c K S=J r:=by
 intro n;induction n with
 |zero=>nofun
 |succ n o=>
  intro c K S r h;have v:∀e,n+1<=e->∃k,e=k+1/\n<=k:=λe h=>⟨e -1,by omega,by omega⟩;cases c with
  |skip=>exact⟨0,λj e _ i=>by obtain⟨k,rfl,_⟩:=v e i;exact h⟩
  |ret=>exact⟨0,λj e _ i=>by obtain⟨k,rfl,_⟩:=v e i;exact h⟩
  |exit id=>exact⟨0,λj e _ i=>by obtain⟨k,rfl,_⟩:=v e i;exact h⟩
  |draw y l=>
   simp only[eZ]at h;split at h;case h_2=>cases h
   rename_i t u q;have⟨m,A⟩:=akx d q;refine⟨m,λj e f i=>?_⟩
   grind [eZ]
  |ops l=>
   simp only[eZ]at h;split at h;case h_2=>cases h
   rename_i t u q;have⟨m,A⟩:=akv d _ q;refine⟨m,λj e f i=>?_⟩
   grind [eZ]
  |Q a b=>
   simp only[eZ]at h;split at h
   ·rename_i t u q
    have⟨g,p⟩:=o q;have⟨w,z⟩:=o h;refine⟨max g w,λj e f i=>?_⟩
    grind [eZ]
   ·rename_i s
    have⟨g,p⟩:=o h;refine⟨g,λj e f i=>?_⟩
    grind [eZ]
  |cond x a b=>
   simp only[eZ]at h;split at h
   ·rename_i E
    have⟨g,p⟩:=o h;refine⟨g,λj e f i=>?_⟩
    grind [eZ]
   ·rename_i E
    have⟨g,p⟩:=o h;refine⟨g,λj e f i=>?_⟩
    grind [eZ]
   ·cases h
  |block id b=>
   simp only[eZ]at h;split at h
   ·rename_i I t u q
    have⟨g,p⟩:=o q;refine⟨g,λj e f i=>?_⟩
    grind [eZ]
   ·rename_i s
    have⟨g,p⟩:=o h;refine⟨g,λj e f i=>?_⟩
    grind [eZ]
  |L b=>
   simp only[eZ]at h;split at h
   ·rename_i t u q
    have⟨g,p⟩:=o q;have⟨w,z⟩:=o h;refine⟨max g w,λj e f i=>?_⟩
    grind [eZ]
   ·rename_i s
    have⟨g,p⟩:=o h;refine⟨g,λj e f i=>?_⟩
    grind [eZ]
  |dO l b=>
   simp only[eZ]at h;have⟨g,p⟩:=o h;refine⟨g,λj e f i=>?_⟩
   grind [eZ]
  |ej l b=>
   simp only[eZ]at h;have⟨g,p⟩:=o h;refine⟨g,λj e f i=>?_⟩
   grind [eZ]
  |scope b=>
   simp only[eZ]at h;have⟨g,p⟩:=o h;refine⟨g,λj e f i=>?_⟩
   grind [eZ]
  |lab=>exact⟨0,λj e _ i=>by obtain⟨k,rfl,_⟩:=v e i;exact h⟩
  |bad=>trivial
  |VM y l k=>
   simp only[eZ]at h;have⟨g,p⟩:=o h;refine⟨g,λj e f i=>?_⟩
   grind [eZ]
end
section
variable{ay:eS->Option KF}{nk:NK}
def Au(ay:eS->Option KF)(run:KC->bQ->Z->Option (Out × bQ × Z)):cP:=λf args S=>
 match ay f with
 |none=>M
 |some k=>if k.nt<args.length then M else match run k.body ⟨Ar 0 args,[],S.length⟩ S with
  |some (.E _,_,_)=>M
  |some (_,K,S')=>match IN K S' k.res with
   |none=>M
   |some vs=>ds f K.ag vs S S'
  |none=>M
theorem Kh(n:Nat)(f:eS)(args:F)(S:Z):Ex ay nk (n+1) f args S=Au ay (eZ (rG nk (Ex ay nk n)) n) f args S:=rfl
def IP{b a:KC->bQ->Z->Option (Out × bQ × Z)}(h:∀c K S r,b c K S=J r->a c K S=J r)(f:eS)(args:F)(S:Z)(r:Q × Z)(e:Au ay b f args S=J r):Au ay a f args S=J r:=by grind [Au]
def Rw:∀(n m:Nat),n<=m->∀f args S r,Ex ay nk n f args S=J r->Ex ay nk m f args S=J r:=by
 intro n;induction n with
 |zero=>nofun
 |succ n e=>
  intro m g f args S r h;obtain⟨k,rfl⟩:∃k,m=k+1:=⟨m -1,by omega⟩;rw[Kh]at h⊢;refine IP (λc a S r d=>?_) _ _ _ _ h;have⟨m,b⟩:=Gy (Kg nk (F:=λ_=>Ex ay nk k) λf args S r h=>⟨0,λ_ _=>e k V f args S r h⟩) n d;exact b m k (gM _) V
noncomputable def DF(ay:eS->Option KF)(nk:NK):cP:=λf args S=>lim λn=>Ex ay nk n f args S
noncomputable def DC(ay:eS->Option KF)(nk:NK)(c:KC)(K:bQ)(S:Z):Option (Out × bQ × Z):=lim λn=>eZ (rG nk (DF ay nk)) n c K S
def Gz{f:eS}{args:F}{S:Z}(r:Q × Z):DF ay nk f args S=J r↔∃n,Ex ay nk n f args S=J r:=
 VQ (λn m a h=>Rw n m h f args S a) r
def afg:Ez (DF ay nk) (λn=>Ex ay nk n):=by intro f a S r h;have⟨n,c⟩:=(Gz r).1 h;exact⟨n,λd b=>Rw n d b f a S r c⟩
def VR(call:cP):Ez call (λ_=>call):=λ_ _ _ _ h=>⟨0,λ_ _=>h⟩
theorem GA{call:cP}{n m:Nat}{c:KC}{K:bQ}{S:Z}{r:Out × bQ × Z}(h:n<=m)(e:eZ call n c K S=J r):eZ call m c K S=J r:=by have⟨k,a⟩:=Gy (VR call) n e;exact a k m (gM _) h
theorem i_{c:KC}{K:bQ}{S:Z}(r:Out × bQ × Z):DC ay nk c K S=J r↔∃n,eZ (rG nk (DF ay nk)) n c K S=J r:=
 VQ (λ_ _ _ h e=>GA h e) r
theorem aue(f:eS)(args:bD)(S:Z):DF ay nk f args S=Au ay (DC ay nk) f args S:=by
 apply Cq;intro r;rw[Gz];constructor
 ·rintro⟨n,h⟩
  cases n with
  |zero=>trivial
  |succ n=>
   rw[Kh]at h;refine IP (λc a S r b=>?_) _ _ _ _ h;have⟨m,d⟩:=Gy (Kg nk (F:=λ_=>DF ay nk) λf args S r h=>⟨0,λ_ _=>(Gz r).2 ⟨n,h⟩⟩) n b;exact(i_ _).2 ⟨n,d m n (gM _) (gM _)⟩
 ·intro h
  unfold Au at h;cases e:ay f with
  |none=>simp_all
  |some k=>
   simp only[e]at h;split at h;·cases h
   rename_i i;cases b:DC ay nk k.body ⟨Ar 0 args,[],S.length⟩ S with
   |none=>simp_all
   |some x=>
    have⟨n,g⟩:=(i_ x).1 b;have⟨m,d⟩:=Gy (Kg nk afg) n g;refine⟨max m n+1, ?_⟩
    grind [Kh,Au]
def LO(x:Option (Out × bQ × Z))(k:bQ->Z->Option (Out × bQ × Z)):Option (Out × bQ × Z):=
 match x with
 |some (.normal,E,S)=>k E S
 |r=>r
@[simp]def aky(E:bQ)(S:Z)(k):LO (J (.normal,E,S)) k=k E S:=rfl
@[simp]def asq(E:bQ)(S:Z)(k):LO (J (.R,E,S)) k=J (.R,E,S):=rfl
@[simp]def apg(id:Nat)(E:bQ)(S:Z)(k):LO (J (.E id,E,S)) k=J (.E id,E,S):=rfl
@[simp]def aph(k):LO M k=M:=rfl
def A0(id:Nat)(x:Option (Out × bQ × Z)):Option (Out × bQ × Z):=
 match x with
 |some (.E Il,E,S)=>if Il=id then J (.normal,E,S)else J (.E Il,E,S)
 |r=>r
@[simp]def ajZ(id:Nat)(E:bQ)(S:Z):A0 id (J (.normal,E,S))=J (.normal,E,S):=rfl
@[simp]def api(id:Nat)(E:bQ)(S:Z):A0 id (J (.R,E,S))=J (.R,E,S):=rfl
@[simp]theorem LP(id a:Nat)(E:bQ)(S:Z):A0 id (J (.E a,E,S))=if a=id then J (.normal,E,S)else J (.E a,E,S):=rfl
@[simp]def ano(id:Nat):A0 id M=M:=rfl
def Bz(x:Option (bQ × Z)):Option (Out × bQ × Z):=
 match x with
 |some (E,S)=>J (.normal,E,S)
 |none=>M
@[simp]def asr(E:bQ)(S:Z):Bz (J (E,S))=J (.normal,E,S):=rfl
@[simp]def ass:Bz M=M:=rfl
def aaY{α:Type}(v:Q)(x y:Option α):Option α:=
 match v with
 |.B G=>x
 |.B O=>y
 |_=>M
@[simp]def apj{α:Type}(b:Bool)(x y:Option α):aaY (.B b) x y=if b then x else y:=by cases b<;>rfl
def akz(E:bQ)(S:Z):DC ay nk .skip E S=J (.normal,E,S):=(i_ _).2 ⟨1,rfl⟩
def apk(E:bQ)(S:Z):DC ay nk .ret E S=J (.R,E,S):=(i_ _).2 ⟨1,rfl⟩
def akA(id:Nat)(E:bQ)(S:Z):DC ay nk (.exit id) E S=J (.E id,E,S):=(i_ _).2 ⟨1,rfl⟩
def M5{c:KC}{E:bQ}{S:Z}{x:Option (Out × bQ × Z)}(h:∀n,eZ (rG nk (DF ay nk)) (n+1) c E S=x):DC ay nk c E S=x:=by
 apply Cq;intro r;rw[i_];constructor
 ·rintro⟨n,a⟩
  rw[<-h n];exact GA (Nat.le_succ n) a
 ·intro b
  exact⟨1,by simp_all⟩
def akB(a:List (Nat × F))(l:List KD)(E:bQ)(S:Z):DC ay nk (.draw a l) E S=Bz (Ms (rG nk (DF ay nk)) a l E S):=by apply M5;intro n;rfl
def apl(l:List KO)(E:bQ)(S:Z):DC ay nk (.ops l) E S=Bz (ue (rG nk (DF ay nk)) l E S):=by apply M5;intro n;rfl
def Od{x:Option (Out × bQ × Z)}{k:bQ->Z->Option (Out × bQ × Z)}{r:Out × bQ × Z}:LO x k=J r↔(∃E S,x=J (.normal,E,S)/\k E S=J r)\/(r.1≠.normal/\x=J r):=by
 cases x with
 |none=>simp
 |some y=>
  have⟨o,E,S⟩:=y;constructor
  ·intro h
   cases o with
   |normal=>exact .inl ⟨E,S,rfl,h⟩
   |R=>cases h;simp
   |E id=>cases h;simp
  ·rintro(⟨E1,S1,h1,h2⟩|⟨h1,h2⟩)
   ·simp_all
   ·cases h2
    cases o<;>trivial
def apm(a b:KC)(E:bQ)(S:Z):DC ay nk (.Q a b) E S=LO (DC ay nk a E S) λc d=>DC ay nk b c d:=by
 apply Cq;intro r;rw[i_,Od];constructor
 ·rintro⟨n,h⟩
  cases n<;>grind [eZ,i_]
 ·rintro(⟨E1,S1,h1,h2⟩|⟨h1,h2⟩)
  ·have⟨n,e⟩:=(i_ _).1 h1
   have⟨m,f⟩:=(i_ _).1 h2;refine⟨max n m+1, ?_⟩
   grind [eZ,GA,Nat.le_max_right]
  ·have⟨n,e⟩:=(i_ _).1 h2
   refine⟨n+1, ?_⟩
   grind [eZ]
def akC(b:KC)(E:bQ)(S:Z):DC ay nk (.L b) E S=LO (DC ay nk b E S) λa c=>DC ay nk (.L b) a c:=by
 apply Cq;intro r;rw[i_,Od];constructor
 ·rintro⟨n,h⟩
  cases n<;>grind [eZ,i_]
 ·rintro(⟨E1,S1,h1,h2⟩|⟨h1,h2⟩)
  ·have⟨n,d⟩:=(i_ _).1 h1
   have⟨m,e⟩:=(i_ _).1 h2;refine⟨max n m+1, ?_⟩
   grind [eZ,GA,Nat.le_max_right]
  ·have⟨n,d⟩:=(i_ _).1 h2
   refine⟨n+1, ?_⟩
   grind [eZ]
def akD(x:KV)(a b:KC)(E:bQ)(S:Z):DC ay nk (.cond x a b) E S=aaY (KE.ev E.sl x) (DC ay nk a E S) (DC ay nk b E S):=by
 apply Cq;intro r;rw[i_];constructor
 ·rintro⟨n,h⟩
  cases n with
  |zero=>trivial
  |succ n=>
   simp only[eZ]at h;split at h
   ·rename_i c
    rw[c];exact(i_ _).2 ⟨n,h⟩
   ·rename_i c
    rw[c];exact(i_ _).2 ⟨n,h⟩
   ·cases h
 ·intro h
  unfold aaY at h;split at h
  ·rename_i c
   have⟨n,d⟩:=(i_ _).1 h;exact⟨n+1,by simp only[eZ,c];exact d⟩
  ·rename_i c
   have⟨n,d⟩:=(i_ _).1 h;exact⟨n+1,by simp only[eZ,c];exact d⟩
  ·cases h
def VS{id:Nat}{x:Option (Out × bQ × Z)}{r:Out × bQ × Z}:A0 id x=J r↔(∃a E S,x=J (.E a,E,S)/\r=(if a=id then(.normal,E,S)else(.E a,E,S)))\/((∀a,r.1≠.E a)/\x=J r):=by
 cases x with
 |none=>simp
 |some y=>
  have⟨o,E,S⟩:=y;constructor
  ·intro h
   cases o with
   |normal=>cases h;simp
   |R=>cases h;simp
   |E a=>
    refine .inl ⟨a,E,S,rfl, ?_⟩
    grind [LP]
  ·rintro(⟨a,E1,S1,h1,h2⟩|⟨h1,h2⟩)
   ·grind [LP]
   ·cases h2
    cases o<;>simp_all
def afh(id:Nat)(b:KC)(E:bQ)(S:Z):DC ay nk (.block id b) E S=A0 id (DC ay nk b E S):=by
 apply Cq;intro r;rw[i_,VS];constructor
 ·rintro⟨n,h⟩
  cases n with
  |zero=>simp[eZ]at h
  |succ n=>
   simp only[eZ]at h;split at h
   ·rename_i a d f c
    refine .inl ⟨a,d,f,(i_ _).2 ⟨n,c⟩, ?_⟩;split at h<;>rename_i j<;>simp[j]<;>simpa using h.symm
   ·rename_i i
    refine .inr ⟨λa e=>?_,(i_ _).2 ⟨n,h⟩⟩;have⟨o,d,f⟩:=r;cases e;exact i _ _ _ h
 ·rintro(⟨a,d,f,c,rfl⟩|⟨c,h2⟩)
  ·have⟨n,g⟩:=(i_ _).1 c
   refine⟨n+1, ?_⟩;simp only[eZ,g];split<;>rfl
  ·have⟨n,g⟩:=(i_ _).1 h2
   refine⟨n+1, ?_⟩;simp only[eZ,g];have⟨o,d,f⟩:=r;cases o with
   |E a=>exact absurd rfl (c a)
   |_=>rfl
def aaZ{c d:KC}{K b:bQ}{S:Z}(h:∀n,eZ (rG nk (DF ay nk)) (n+1) c K S=eZ (rG nk (DF ay nk)) n d b S):DC ay nk c K S=DC ay nk d b S:=by
 apply Cq;intro r;rw[i_,i_];constructor
 ·rintro⟨n,a⟩
  cases n with
  |zero=>simp[eZ]at a
  |succ n=>exact⟨n,by rw[<-h n];exact a⟩
 ·rintro⟨n,a⟩
  exact⟨n+1,by rw[h n];exact a⟩
def akE(l:List Nat)(k:KC)(K:bQ)(S:Z):DC ay nk (.dO l k) K S=DC ay nk k (K.dO l) S:=aaZ λn=>rfl
def afi(b:KC)(K:bQ)(S:Z):DC ay nk (.scope b) K S=DC ay nk b K S:=aaZ λn=>rfl
def akF(a:List (Nat × F))(l:List KD)(k:List KO)(K:bQ)(S:Z):DC ay nk (.VM a l k) K S=DC ay nk (.Q (.draw a l) (.ops k)) K S:=aaZ λn=>rfl
def apn(K:bQ)(S:Z):DC ay nk .lab K S=J (.normal,K,S):=M5 λn=>rfl
def apo(K:bQ)(S:Z):DC ay nk .bad K S=M:=M5 λn=>rfl
def akG(l:List Nat)(k:KC)(K:bQ)(S:Z):DC ay nk (.ej l k) K S=DC ay nk k (K.ej l) S:=aaZ λn=>rfl
end
end
section
variable{ay:eS->Option KF}{nk nk':NK}
end
end Go.Proofs.YtiaklhkdbokkhaaGreat.am
