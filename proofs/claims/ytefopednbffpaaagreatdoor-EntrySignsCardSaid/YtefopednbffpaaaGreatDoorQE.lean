/- Parts. No condition. -/
import Derived.Test.YtefopednbffpaaaGreatDoorQC
set_option linter.all false
namespace Go.Proofs.YtefopednbffpaaaGreatDoor.am
open Go
open Option renaming some->J,none->D
open Bool renaming false->O,true->G
open Nat renaming le_refl->gL
open Go.Proofs.YtefopednbffpaaaGreatDoor.am renaming om->V,St->Z,AV->Q,bJ->K
section
noncomputable def lim{α:Type}(f:Nat->Option α):Option α:=
 open Classical in if h:∃a n,f n=J a then J (Classical.choose h)else D
def Xl{α:Type}{f:Nat->Option α}(b:∀n m a,n<=m->f n=J a->f m=J a)(a:α):lim f=J a↔∃n,f n=J a:=by
 unfold lim;constructor
 ·intro h
  split at h;all_goals grind
 ·rintro⟨n,c⟩
  have d:∃a n,f n=J a:=⟨a,n,c⟩
  grind
def DK{α:Type}{x y:Option α}(h:∀a,x=J a↔y=J a):x=y:=by
 cases b:x with
 |some a=>grind
 |none=>cases c:y<;>simp_all
def F3(call:cT)(F:Nat->cT):Prop:=∀f args S r,call f args S=J r->∃m,∀m',m<=m'->F m' f args S=J r
section
variable{call:cT}{F:Nat->cT}
def Ly(nk:NK)(a:F3 call F):F3 (rZ nk call) (λn=>rZ nk (F n)):=by
 intro f b S r h;unfold rZ at h⊢;cases c:nk.tD f with
 |some p=>simp_all
 |none=>simp only[c]at h⊢;exact a f _ S r h
def Z9(a:F3 call F){ag:bV}{S:Z}{f:Q}{args:K}{r:Q × bV × Z}(h:Ez call ag S f args=J r):∃m,∀c,m<=c->Ez (F c) ag S f args=J r:=by
 unfold Ez at h;split at h;·cases h
 rename_i o d p;split at h
 ·rename_i i
  split at h;·cases h
  rename_i b k;split at h;·cases h
  rename_i n j g;have⟨m,l⟩:=a _ _ _ _ g;refine⟨m,λc e=>?_⟩
  grind [Ez]
 ·rename_i i
  split at h;·cases h
  rename_i b k;split at h;·cases h
  rename_i n j g;have⟨m,l⟩:=a _ _ _ _ g;refine⟨m,λc e=>?_⟩
  grind [Ez]
def amp(a:F3 call F){K:cf}{S:Z}{o:IA}{r:Q × bV × Z}(h:nL call K S o=J r):∃m,∀c,m<=c->nL (F c) K S o=J r:=by
 cases o with
 |call f b=>exact Z9 a h
 |_=>exact⟨0,λ_ _=>h⟩
def aco(a:F3 call F){K:cf}{S:Z}{o:KO}{r:Q × cf × Z}(h:Lw call K S o=J r):∃m,∀b,m<=b->Lw (F b) K S o=J r:=by
 unfold Lw at h;split at h
 ·rename_i j
  split at h;case h_2=>cases h
  rename_i v c g e;have⟨f,i⟩:=amp a e;refine⟨f,λb d=>?_⟩
  grind [Lw]
 all_goals simp_all[Lw]
def amq(a:F3 call F):∀(l:List KO){K:cf}{S:Z}{r:cf × Z},uP call l K S=J r->∃m,∀b,m<=b->uP (F b) l K S=J r:=by
 intro l;induction l with
 |nil=>intro K S r h;exact⟨0,λ_ _=>h⟩
 |cons o l e=>
  intro K S r h;simp only[uP]at h;split at h;case h_2=>cases h
  rename_i v i j d;have⟨f,k⟩:=aco a d;have⟨g,n⟩:=e h;refine⟨max f g,λb c=>?_⟩
  grind [uP]
def amr(a:F3 call F):∀(l:List KD){K:cf}{S:Z}{b:List Z}{ls:List IB}{r:cf × Z × List Z × List IB},Bp call l K S b ls=J r->∃m,∀c,m<=c->Bp (F c) l K S b ls=J r:=by
 intro l;induction l with
 |nil=>intro K S b ls r h;exact⟨0,λ_ _=>h⟩
 |cons o l f=>
  intro K S b ls r h;simp only[Bp]at h;split at h;case h_2=>cases h
  rename_i v j k e;have⟨g,n⟩:=aco a e;have⟨i,p⟩:=f h;refine⟨max g i,λc d=>?_⟩
  grind [Bp]
def ams(a:F3 call F){c:List (Nat × bJ)}{l:List KD}{K:cf}{S:Z}{r:cf × Z}(h:NI call c l K S=J r):∃m,∀b,m<=b->NI (F b) c l K S=J r:=by
 unfold NI at h;split at h;·cases h
 rename_i f g k j e;have⟨m,i⟩:=amr a _ e;refine⟨m,λb d=>?_⟩
 grind [NI]
def HG(d:F3 call F):∀(n:Nat){c:KC}{K:cf}{S:Z}{r:Out × cf × Z},ft call n c K S=J r->∃m,∀j e,m<=j->n<=e->ft (F j) e c K S=J r:=by
 intro n;induction n with
 |zero=>nofun
 |succ n o=>
  intro c K S r h;have v:∀e,n+1<=e->∃k,e=k+1/\n<=k:=λe h=>⟨e -1,by omega,by omega⟩;cases c with
  |skip=>exact⟨0,λj e _ i=>by obtain⟨k,rfl,_⟩:=v e i;exact h⟩
  |ret=>exact⟨0,λj e _ i=>by obtain⟨k,rfl,_⟩:=v e i;exact h⟩
  |exit id=>exact⟨0,λj e _ i=>by obtain⟨k,rfl,_⟩:=v e i;exact h⟩
  |draw y l=>
   simp only[ft]at h;split at h;case h_2=>cases h
   rename_i t u q;have⟨m,A⟩:=ams d q;refine⟨m,λj e f i=>?_⟩
   grind [ft]
  |ops l=>
   simp only[ft]at h;split at h;case h_2=>cases h
   rename_i t u q;have⟨m,A⟩:=amq d _ q;refine⟨m,λj e f i=>?_⟩
   grind [ft]
  |Q a b=>
   simp only[ft]at h;split at h
   ·rename_i t u q
    have⟨g,p⟩:=o q;have⟨w,z⟩:=o h;refine⟨max g w,λj e f i=>?_⟩
    grind [ft]
   ·rename_i s
    have⟨g,p⟩:=o h;refine⟨g,λj e f i=>?_⟩
    grind [ft]
  |cond x a b=>
   simp only[ft]at h;split at h
   ·rename_i E
    have⟨g,p⟩:=o h;refine⟨g,λj e f i=>?_⟩
    grind [ft]
   ·rename_i E
    have⟨g,p⟩:=o h;refine⟨g,λj e f i=>?_⟩
    grind [ft]
   ·cases h
  |block id b=>
   simp only[ft]at h;split at h
   ·rename_i I t u q
    have⟨g,p⟩:=o q;refine⟨g,λj e f i=>?_⟩
    grind [ft]
   ·rename_i s
    have⟨g,p⟩:=o h;refine⟨g,λj e f i=>?_⟩
    grind [ft]
  |L b=>
   simp only[ft]at h;split at h
   ·rename_i t u q
    have⟨g,p⟩:=o q;have⟨w,z⟩:=o h;refine⟨max g w,λj e f i=>?_⟩
    grind [ft]
   ·rename_i s
    have⟨g,p⟩:=o h;refine⟨g,λj e f i=>?_⟩
    grind [ft]
  |dU l b=>
   simp only[ft]at h;have⟨g,p⟩:=o h;refine⟨g,λj e f i=>?_⟩
   grind [ft]
  |dT l b=>
   simp only[ft]at h;have⟨g,p⟩:=o h;refine⟨g,λj e f i=>?_⟩
   grind [ft]
  |scope b=>
   simp only[ft]at h;have⟨g,p⟩:=o h;refine⟨g,λj e f i=>?_⟩
   grind [ft]
  |lab=>exact⟨0,λj e _ i=>by obtain⟨k,rfl,_⟩:=v e i;exact h⟩
  |bad=>trivial
  |Xh y l k=>
   simp only[ft]at h;have⟨g,p⟩:=o h;refine⟨g,λj e f i=>?_⟩
   grind [ft]
end
section
variable{ay:FuncId->Option KF}{nk:NK}
def Bs(ay:FuncId->Option KF)(run:KC->cf->Z->Option (Out × cf × Z)):cT:=λf args S=>
 match ay f with
 |none=>D
 |some k=>if k.nt<args.length then D else match run k.body ⟨Bq 0 args,[],S.length⟩ S with
  |some (.E _,_,_)=>D
  |some (_,K,S')=>match JW K S' k.res with
   |none=>D
   |some vs=>dv f K.ag vs S S'
  |none=>D
theorem Lz(n:Nat)(f:FuncId)(args:K)(S:Z):F1 ay nk (n+1) f args S=Bs ay (ft (rZ nk (F1 ay nk n)) n) f args S:=rfl
def JX{b a:KC->cf->Z->Option (Out × cf × Z)}(h:∀c K S r,b c K S=J r->a c K S=J r)(f:FuncId)(args:bJ)(S:Z)(r:Q × Z)(e:Bs ay b f args S=J r):Bs ay a f args S=J r:=by grind [Bs]
def S7:∀(n m:Nat),n<=m->∀f args S r,F1 ay nk n f args S=J r->F1 ay nk m f args S=J r:=by
 intro n;induction n with
 |zero=>nofun
 |succ n e=>
  intro m g f args S r h;obtain⟨k,rfl⟩:∃k,m=k+1:=⟨m -1,by omega⟩;rw[Lz]at h⊢;refine JX (λc a S r d=>?_) _ _ _ _ h;have⟨m,b⟩:=HG (Ly nk (F:=λ_=>F1 ay nk k) λf args S r h=>⟨0,λ_ _=>e k V f args S r h⟩) n d;exact b m k (gL _) V
noncomputable def DF(ay:FuncId->Option KF)(nk:NK):cT:=λf args S=>lim λn=>F1 ay nk n f args S
noncomputable def DC(ay:FuncId->Option KF)(nk:NK)(c:KC)(K:cf)(S:Z):Option (Out × cf × Z):=lim λn=>ft (rZ nk (DF ay nk)) n c K S
def HH{f:FuncId}{args:K}{S:Z}(r:Q × Z):DF ay nk f args S=J r↔∃n,F1 ay nk n f args S=J r:=
 Xl (λn m a h=>S7 n m h f args S a) r
def ag4:F3 (DF ay nk) (λn=>F1 ay nk n):=by intro f a S r h;have⟨n,c⟩:=(HH r).1 h;exact⟨n,λd b=>S7 n d b f a S r c⟩
def Xm(call:cT):F3 call (λ_=>call):=λ_ _ _ _ h=>⟨0,λ_ _=>h⟩
theorem HI{call:cT}{n m:Nat}{c:KC}{K:cf}{S:Z}{r:Out × cf × Z}(h:n<=m)(e:ft call n c K S=J r):ft call m c K S=J r:=by have⟨k,a⟩:=HG (Xm call) n e;exact a k m (gL _) h
theorem jd{c:KC}{K:cf}{S:Z}(r:Out × cf × Z):DC ay nk c K S=J r↔∃n,ft (rZ nk (DF ay nk)) n c K S=J r:=
 Xl (λ_ _ _ h e=>HI h e) r
theorem awE(f:FuncId)(args:K)(S:Z):DF ay nk f args S=Bs ay (DC ay nk) f args S:=by
 apply DK;intro r;rw[HH];constructor
 ·rintro⟨n,h⟩
  cases n with
  |zero=>trivial
  |succ n=>
   rw[Lz]at h;refine JX (λc a S r b=>?_) _ _ _ _ h;have⟨m,d⟩:=HG (Ly nk (F:=λ_=>DF ay nk) λf args S r h=>⟨0,λ_ _=>(HH r).2 ⟨n,h⟩⟩) n b;exact(jd _).2 ⟨n,d m n (gL _) (gL _)⟩
 ·intro h
  unfold Bs at h;cases e:ay f with
  |none=>simp_all
  |some k=>
   simp only[e]at h;split at h;·cases h
   rename_i i;cases b:DC ay nk k.body ⟨Bq 0 args,[],S.length⟩ S with
   |none=>simp_all
   |some x=>
    have⟨n,g⟩:=(jd x).1 b;have⟨m,d⟩:=HG (Ly nk ag4) n g;refine⟨max m n+1, ?_⟩
    grind [Lz,Bs]
def MZ(x:Option (Out × cf × Z))(k:cf->Z->Option (Out × cf × Z)):Option (Out × cf × Z):=
 match x with
 |some (.normal,E,S)=>k E S
 |r=>r
@[simp]def amt(E:cf)(S:Z)(k):MZ (J (.normal,E,S)) k=k E S:=rfl
@[simp]def auW(E:cf)(S:Z)(k):MZ (J (.R,E,S)) k=J (.R,E,S):=rfl
@[simp]def arn(id:Nat)(E:cf)(S:Z)(k):MZ (J (.E id,E,S)) k=J (.E id,E,S):=rfl
@[simp]def aro(k):MZ D k=D:=rfl
def Jc(id:Nat)(x:Option (Out × cf × Z)):Option (Out × cf × Z):=
 match x with
 |some (.E Jy,E,S)=>if Jy=id then J (.normal,E,S)else J (.E Jy,E,S)
 |r=>r
@[simp]def alV(id:Nat)(E:cf)(S:Z):Jc id (J (.normal,E,S))=J (.normal,E,S):=rfl
@[simp]def arp(id:Nat)(E:cf)(S:Z):Jc id (J (.R,E,S))=J (.R,E,S):=rfl
@[simp]theorem M4(id a:Nat)(E:cf)(S:Z):Jc id (J (.E a,E,S))=if a=id then J (.normal,E,S)else J (.E a,E,S):=rfl
@[simp]def apu(id:Nat):Jc id D=D:=rfl
def CF(x:Option (cf × Z)):Option (Out × cf × Z):=
 match x with
 |some (E,S)=>J (.normal,E,S)
 |none=>D
@[simp]def auX(E:cf)(S:Z):CF (J (E,S))=J (.normal,E,S):=rfl
@[simp]def auY:CF D=D:=rfl
def acp{α:Type}(v:Q)(x y:Option α):Option α:=
 match v with
 |.B G=>x
 |.B O=>y
 |_=>D
@[simp]def arq{α:Type}(b:Bool)(x y:Option α):acp (.B b) x y=if b then x else y:=by cases b<;>rfl
def amu(E:cf)(S:Z):DC ay nk .skip E S=J (.normal,E,S):=(jd _).2 ⟨1,rfl⟩
def ars(E:cf)(S:Z):DC ay nk .ret E S=J (.R,E,S):=(jd _).2 ⟨1,rfl⟩
def amv(id:Nat)(E:cf)(S:Z):DC ay nk (.exit id) E S=J (.E id,E,S):=(jd _).2 ⟨1,rfl⟩
def On{c:KC}{E:cf}{S:Z}{x:Option (Out × cf × Z)}(h:∀n,ft (rZ nk (DF ay nk)) (n+1) c E S=x):DC ay nk c E S=x:=by
 apply DK;intro r;rw[jd];constructor
 ·rintro⟨n,a⟩
  rw[<-h n];exact HI (Nat.le_succ n) a
 ·intro b
  exact⟨1,by simp_all⟩
def amw(a:List (Nat × K))(l:List KD)(E:cf)(S:Z):DC ay nk (.draw a l) E S=CF (NI (rZ nk (DF ay nk)) a l E S):=by apply On;intro n;rfl
def art(l:List KO)(E:cf)(S:Z):DC ay nk (.ops l) E S=CF (uP (rZ nk (DF ay nk)) l E S):=by apply On;intro n;rfl
def Px{x:Option (Out × cf × Z)}{k:cf->Z->Option (Out × cf × Z)}{r:Out × cf × Z}:MZ x k=J r↔(∃E S,x=J (.normal,E,S)/\k E S=J r)\/(r.1≠.normal/\x=J r):=by
 cases x with
 |none=>simp
 |some y=>
  have⟨o,E,S⟩:=y;constructor
  ·intro h
   cases o with
   |normal=>exact .inl ⟨E,S,rfl,h⟩
   |R=>cases h;simp
   |E id=>cases h;simp
  ·rintro(⟨E1,S1,h1,h2⟩|⟨h1,h2⟩)
   ·simp_all
   ·cases h2
    cases o<;>trivial
def aru(a b:KC)(E:cf)(S:Z):DC ay nk (.Q a b) E S=MZ (DC ay nk a E S) λc d=>DC ay nk b c d:=by
 apply DK;intro r;rw[jd,Px];constructor
 ·rintro⟨n,h⟩
  cases n<;>grind [ft,jd]
 ·rintro(⟨E1,S1,h1,h2⟩|⟨h1,h2⟩)
  ·have⟨n,e⟩:=(jd _).1 h1
   have⟨m,f⟩:=(jd _).1 h2;refine⟨max n m+1, ?_⟩
   grind [ft,HI,Nat.le_max_right]
  ·have⟨n,e⟩:=(jd _).1 h2
   refine⟨n+1, ?_⟩
   grind [ft]
def amx(b:KC)(E:cf)(S:Z):DC ay nk (.L b) E S=MZ (DC ay nk b E S) λa c=>DC ay nk (.L b) a c:=by
 apply DK;intro r;rw[jd,Px];constructor
 ·rintro⟨n,h⟩
  cases n<;>grind [ft,jd]
 ·rintro(⟨E1,S1,h1,h2⟩|⟨h1,h2⟩)
  ·have⟨n,d⟩:=(jd _).1 h1
   have⟨m,e⟩:=(jd _).1 h2;refine⟨max n m+1, ?_⟩
   grind [ft,HI,Nat.le_max_right]
  ·have⟨n,d⟩:=(jd _).1 h2
   refine⟨n+1, ?_⟩
   grind [ft]
def amy(x:KV)(a b:KC)(E:cf)(S:Z):DC ay nk (.cond x a b) E S=acp (KE.ev E.sl x) (DC ay nk a E S) (DC ay nk b E S):=by
 apply DK;intro r;rw[jd];constructor
 ·rintro⟨n,h⟩
  cases n with
  |zero=>trivial
  |succ n=>
   simp only[ft]at h;split at h
   ·rename_i c
    rw[c];exact(jd _).2 ⟨n,h⟩
   ·rename_i c
    rw[c];exact(jd _).2 ⟨n,h⟩
   ·cases h
 ·intro h
  unfold acp at h;split at h
  ·rename_i c
   have⟨n,d⟩:=(jd _).1 h;exact⟨n+1,by simp only[ft,c];exact d⟩
  ·rename_i c
   have⟨n,d⟩:=(jd _).1 h;exact⟨n+1,by simp only[ft,c];exact d⟩
  ·cases h
def Xn{id:Nat}{x:Option (Out × cf × Z)}{r:Out × cf × Z}:Jc id x=J r↔(∃a E S,x=J (.E a,E,S)/\r=(if a=id then(.normal,E,S)else(.E a,E,S)))\/((∀a,r.1≠.E a)/\x=J r):=by
 cases x with
 |none=>simp
 |some y=>
  have⟨o,E,S⟩:=y;constructor
  ·intro h
   cases o with
   |normal=>cases h;simp
   |R=>cases h;simp
   |E a=>
    refine .inl ⟨a,E,S,rfl, ?_⟩
    grind [M4]
  ·rintro(⟨a,E1,S1,h1,h2⟩|⟨h1,h2⟩)
   ·grind [M4]
   ·cases h2
    cases o<;>simp_all
def ag5(id:Nat)(b:KC)(E:cf)(S:Z):DC ay nk (.block id b) E S=Jc id (DC ay nk b E S):=by
 apply DK;intro r;rw[jd,Xn];constructor
 ·rintro⟨n,h⟩
  cases n with
  |zero=>simp[ft]at h
  |succ n=>
   simp only[ft]at h;split at h
   ·rename_i a d f c
    refine .inl ⟨a,d,f,(jd _).2 ⟨n,c⟩, ?_⟩;split at h<;>rename_i j<;>simp[j]<;>simpa using h.symm
   ·rename_i i
    refine .inr ⟨λa e=>?_,(jd _).2 ⟨n,h⟩⟩;have⟨o,d,f⟩:=r;cases e;exact i _ _ _ h
 ·rintro(⟨a,d,f,c,rfl⟩|⟨c,h2⟩)
  ·have⟨n,g⟩:=(jd _).1 c
   refine⟨n+1, ?_⟩;simp only[ft,g];split<;>rfl
  ·have⟨n,g⟩:=(jd _).1 h2
   refine⟨n+1, ?_⟩;simp only[ft,g];have⟨o,d,f⟩:=r;cases o with
   |E a=>exact absurd rfl (c a)
   |_=>rfl
def acq{c d:KC}{K b:cf}{S:Z}(h:∀n,ft (rZ nk (DF ay nk)) (n+1) c K S=ft (rZ nk (DF ay nk)) n d b S):DC ay nk c K S=DC ay nk d b S:=by
 apply DK;intro r;rw[jd,jd];constructor
 ·rintro⟨n,a⟩
  cases n with
  |zero=>simp[ft]at a
  |succ n=>exact⟨n,by rw[<-h n];exact a⟩
 ·rintro⟨n,a⟩
  exact⟨n+1,by rw[h n];exact a⟩
def amz(l:List Nat)(k:KC)(K:cf)(S:Z):DC ay nk (.dU l k) K S=DC ay nk k (K.dU l) S:=acq λn=>rfl
def ag6(b:KC)(K:cf)(S:Z):DC ay nk (.scope b) K S=DC ay nk b K S:=acq λn=>rfl
def amA(a:List (Nat × bJ))(l:List KD)(k:List KO)(K:cf)(S:Z):DC ay nk (.Xh a l k) K S=DC ay nk (.Q (.draw a l) (.ops k)) K S:=acq λn=>rfl
def arv(K:cf)(S:Z):DC ay nk .lab K S=J (.normal,K,S):=On λn=>rfl
def arw(K:cf)(S:Z):DC ay nk .bad K S=D:=On λn=>rfl
def amB(l:List Nat)(k:KC)(K:cf)(S:Z):DC ay nk (.dT l k) K S=DC ay nk k (K.dT l) S:=acq λn=>rfl
end
end
section
variable{ay:FuncId->Option KF}{nk nk':NK}
end
end Go.Proofs.YtefopednbffpaaaGreatDoor.am
