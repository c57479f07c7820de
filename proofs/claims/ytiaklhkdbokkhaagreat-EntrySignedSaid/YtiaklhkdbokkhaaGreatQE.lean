/- Parts. No condition. -/
import Derived.Test.YtiaklhkdbokkhaaGreatQC
set_option linter.all false
namespace Go.Proofs.YtiaklhkdbokkhaaGreat.am
open Go
open Option renaming some->J,none->M
open Bool renaming false->O,true->G
open Nat renaming le_refl->gL
open Go.Proofs.YtiaklhkdbokkhaaGreat.am renaming om->V,St->Z,AV->Q,bD->F
section
noncomputable def lim{α:Type}(f:Nat->Option α):Option α:=
 open Classical in if h:∃a n,f n=J a then J (Classical.choose h)else M
def VP{α:Type}{f:Nat->Option α}(b:∀n m a,n<=m->f n=J a->f m=J a)(a:α):lim f=J a↔∃n,f n=J a:=by
 unfold lim;constructor
 ·intro h
  split at h;all_goals grind
 ·rintro⟨n,c⟩
  have d:∃a n,f n=J a:=⟨a,n,c⟩
  grind
def Cp{α:Type}{x y:Option α}(h:∀a,x=J a↔y=J a):x=y:=by
 cases b:x with
 |some a=>grind
 |none=>cases c:y<;>simp_all
def Ey(call:cP)(F:Nat->cP):Prop:=∀f args S r,call f args S=J r->∃m,∀m',m<=m'->F m' f args S=J r
section
variable{call:cP}{F:Nat->cP}
def Kf(nk:NK)(a:Ey call F):Ey (rF nk call) (λn=>rF nk (F n)):=by
 intro f b S r h;unfold rF at h⊢;cases c:nk.sN f with
 |some p=>simp_all
 |none=>simp only[c]at h⊢;exact a f _ S r h
def YN(a:Ey call F){ae:bV}{S:Z}{f:Q}{args:bD}{r:Q × bV × Z}(h:Dm call ae S f args=J r):∃m,∀c,m<=c->Dm (F c) ae S f args=J r:=by
 unfold Dm at h;split at h;·cases h
 rename_i o d p;split at h
 ·rename_i i
  split at h;·cases h
  rename_i b k;split at h;·cases h
  rename_i n j g;have⟨m,l⟩:=a _ _ _ _ g;refine⟨m,λc e=>?_⟩
  grind [Dm]
 ·rename_i i
  split at h;·cases h
  rename_i b k;split at h;·cases h
  rename_i n j g;have⟨m,l⟩:=a _ _ _ _ g;refine⟨m,λc e=>?_⟩
  grind [Dm]
def akt(a:Ey call F){K:bQ}{S:Z}{o:GW}{r:Q × bV × Z}(h:mY call K S o=J r):∃m,∀c,m<=c->mY (F c) K S o=J r:=by
 cases o with
 |call f b=>exact YN a h
 |_=>exact⟨0,λ_ _=>h⟩
def aaW(a:Ey call F){K:bQ}{S:Z}{o:KO}{r:Q × bQ × Z}(h:Kc call K S o=J r):∃m,∀b,m<=b->Kc (F b) K S o=J r:=by
 unfold Kc at h;split at h
 ·rename_i j
  split at h;case h_2=>cases h
  rename_i v c g e;have⟨f,i⟩:=akt a e;refine⟨f,λb d=>?_⟩
  grind [Kc]
 all_goals simp_all[Kc]
def aku(a:Ey call F):∀(l:List KO){K:bQ}{S:Z}{r:bQ × Z},ud call l K S=J r->∃m,∀b,m<=b->ud (F b) l K S=J r:=by
 intro l;induction l with
 |nil=>intro K S r h;exact⟨0,λ_ _=>h⟩
 |cons o l e=>
  intro K S r h;simp only[ud]at h;split at h;case h_2=>cases h
  rename_i v i j d;have⟨f,k⟩:=aaW a d;have⟨g,n⟩:=e h;refine⟨max f g,λb c=>?_⟩
  grind [ud]
def akv(a:Ey call F):∀(l:List KD){K:bQ}{S:Z}{b:List Z}{ls:List Ed}{r:bQ × Z × List Z × List Ed},Ap call l K S b ls=J r->∃m,∀c,m<=c->Ap (F c) l K S b ls=J r:=by
 intro l;induction l with
 |nil=>intro K S b ls r h;exact⟨0,λ_ _=>h⟩
 |cons o l f=>
  intro K S b ls r h;simp only[Ap]at h;split at h;case h_2=>cases h
  rename_i v j k e;have⟨g,n⟩:=aaW a e;have⟨i,p⟩:=f h;refine⟨max g i,λc d=>?_⟩
  grind [Ap]
def akw(a:Ey call F){c:List (Nat × bD)}{l:List KD}{K:bQ}{S:Z}{r:bQ × Z}(h:Mr call c l K S=J r):∃m,∀b,m<=b->Mr (F b) c l K S=J r:=by
 unfold Mr at h;split at h;·cases h
 rename_i f g k j e;have⟨m,i⟩:=akv a _ e;refine⟨m,λb d=>?_⟩
 grind [Mr]
def Gx(d:Ey call F):∀(n:Nat){c:KC}{K:bQ}{S:Z}{r:Out × bQ × Z},eY call n c K S=J r->∃m,∀j e,m<=j->n<=e->eY (F j) e c K S=J r:=by
 intro n;induction n with
 |zero=>nofun
 |succ n o=>
  intro c K S r h;have v:∀e,n+1<=e->∃k,e=k+1/\n<=k:=λe h=>⟨e -1,by omega,by omega⟩;cases c with
  |skip=>exact⟨0,λj e _ i=>by obtain⟨k,rfl,_⟩:=v e i;exact h⟩
  |ret=>exact⟨0,λj e _ i=>by obtain⟨k,rfl,_⟩:=v e i;exact h⟩
  |exit id=>exact⟨0,λj e _ i=>by obtain⟨k,rfl,_⟩:=v e i;exact h⟩
  |draw y l=>
   simp only[eY]at h;split at h;case h_2=>cases h
   rename_i t u q;have⟨m,A⟩:=akw d q;refine⟨m,λj e f i=>?_⟩
   grind [eY]
  |ops l=>
   simp only[eY]at h;split at h;case h_2=>cases h
   rename_i t u q;have⟨m,A⟩:=aku d _ q;refine⟨m,λj e f i=>?_⟩
   grind [eY]
  |Q a b=>
   simp only[eY]at h;split at h
   ·rename_i t u q
    have⟨g,p⟩:=o q;have⟨w,z⟩:=o h;refine⟨max g w,λj e f i=>?_⟩
    grind [eY]
   ·rename_i s
    have⟨g,p⟩:=o h;refine⟨g,λj e f i=>?_⟩
    grind [eY]
  |cond x a b=>
   simp only[eY]at h;split at h
   ·rename_i E
    have⟨g,p⟩:=o h;refine⟨g,λj e f i=>?_⟩
    grind [eY]
   ·rename_i E
    have⟨g,p⟩:=o h;refine⟨g,λj e f i=>?_⟩
    grind [eY]
   ·cases h
  |block id b=>
   simp only[eY]at h;split at h
   ·rename_i I t u q
    have⟨g,p⟩:=o q;refine⟨g,λj e f i=>?_⟩
    grind [eY]
   ·rename_i s
    have⟨g,p⟩:=o h;refine⟨g,λj e f i=>?_⟩
    grind [eY]
  |L b=>
   simp only[eY]at h;split at h
   ·rename_i t u q
    have⟨g,p⟩:=o q;have⟨w,z⟩:=o h;refine⟨max g w,λj e f i=>?_⟩
    grind [eY]
   ·rename_i s
    have⟨g,p⟩:=o h;refine⟨g,λj e f i=>?_⟩
    grind [eY]
  |dO l b=>
   simp only[eY]at h;have⟨g,p⟩:=o h;refine⟨g,λj e f i=>?_⟩
   grind [eY]
  |ej l b=>
   simp only[eY]at h;have⟨g,p⟩:=o h;refine⟨g,λj e f i=>?_⟩
   grind [eY]
  |scope b=>
   simp only[eY]at h;have⟨g,p⟩:=o h;refine⟨g,λj e f i=>?_⟩
   grind [eY]
  |lab=>exact⟨0,λj e _ i=>by obtain⟨k,rfl,_⟩:=v e i;exact h⟩
  |bad=>trivial
  |VL y l k=>
   simp only[eY]at h;have⟨g,p⟩:=o h;refine⟨g,λj e f i=>?_⟩
   grind [eY]
end
section
variable{ax:FuncId->Option KF}{nk:NK}
def As(ax:FuncId->Option KF)(run:KC->bQ->Z->Option (Out × bQ × Z)):cP:=λf args S=>
 match ax f with
 |none=>M
 |some k=>if k.nt<args.length then M else match run k.body ⟨Aq 0 args,[],S.length⟩ S with
  |some (.E _,_,_)=>M
  |some (_,K,S')=>match IL K S' k.res with
   |none=>M
   |some vs=>dr f K.ae vs S S'
  |none=>M
theorem Kg(n:Nat)(f:FuncId)(args:F)(S:Z):Ew ax nk (n+1) f args S=As ax (eY (rF nk (Ew ax nk n)) n) f args S:=rfl
def IN{b a:KC->bQ->Z->Option (Out × bQ × Z)}(h:∀c K S r,b c K S=J r->a c K S=J r)(f:FuncId)(args:F)(S:Z)(r:Q × Z)(e:As ax b f args S=J r):As ax a f args S=J r:=by grind [As]
def Rv:∀(n m:Nat),n<=m->∀f args S r,Ew ax nk n f args S=J r->Ew ax nk m f args S=J r:=by
 intro n;induction n with
 |zero=>nofun
 |succ n e=>
  intro m g f args S r h;obtain⟨k,rfl⟩:∃k,m=k+1:=⟨m -1,by omega⟩;rw[Kg]at h⊢;refine IN (λc a S r d=>?_) _ _ _ _ h;have⟨m,b⟩:=Gx (Kf nk (F:=λ_=>Ew ax nk k) λf args S r h=>⟨0,λ_ _=>e k V f args S r h⟩) n d;exact b m k (gL _) V
noncomputable def DF(ax:FuncId->Option KF)(nk:NK):cP:=λf args S=>lim λn=>Ew ax nk n f args S
noncomputable def DC(ax:FuncId->Option KF)(nk:NK)(c:KC)(K:bQ)(S:Z):Option (Out × bQ × Z):=lim λn=>eY (rF nk (DF ax nk)) n c K S
def Gy{f:FuncId}{args:F}{S:Z}(r:Q × Z):DF ax nk f args S=J r↔∃n,Ew ax nk n f args S=J r:=
 VP (λn m a h=>Rv n m h f args S a) r
def afe:Ey (DF ax nk) (λn=>Ew ax nk n):=by intro f a S r h;have⟨n,c⟩:=(Gy r).1 h;exact⟨n,λd b=>Rv n d b f a S r c⟩
def VQ(call:cP):Ey call (λ_=>call):=λ_ _ _ _ h=>⟨0,λ_ _=>h⟩
theorem Gz{call:cP}{n m:Nat}{c:KC}{K:bQ}{S:Z}{r:Out × bQ × Z}(h:n<=m)(e:eY call n c K S=J r):eY call m c K S=J r:=by have⟨k,a⟩:=Gx (VQ call) n e;exact a k m (gL _) h
theorem iZ{c:KC}{K:bQ}{S:Z}(r:Out × bQ × Z):DC ax nk c K S=J r↔∃n,eY (rF nk (DF ax nk)) n c K S=J r:=
 VP (λ_ _ _ h e=>Gz h e) r
theorem aud(f:FuncId)(args:bD)(S:Z):DF ax nk f args S=As ax (DC ax nk) f args S:=by
 apply Cp;intro r;rw[Gy];constructor
 ·rintro⟨n,h⟩
  cases n with
  |zero=>trivial
  |succ n=>
   rw[Kg]at h;refine IN (λc a S r b=>?_) _ _ _ _ h;have⟨m,d⟩:=Gx (Kf nk (F:=λ_=>DF ax nk) λf args S r h=>⟨0,λ_ _=>(Gy r).2 ⟨n,h⟩⟩) n b;exact(iZ _).2 ⟨n,d m n (gL _) (gL _)⟩
 ·intro h
  unfold As at h;cases e:ax f with
  |none=>simp_all
  |some k=>
   simp only[e]at h;split at h;·cases h
   rename_i i;cases b:DC ax nk k.body ⟨Aq 0 args,[],S.length⟩ S with
   |none=>simp_all
   |some x=>
    have⟨n,g⟩:=(iZ x).1 b;have⟨m,d⟩:=Gx (Kf nk afe) n g;refine⟨max m n+1, ?_⟩
    grind [Kg,As]
def LN(x:Option (Out × bQ × Z))(k:bQ->Z->Option (Out × bQ × Z)):Option (Out × bQ × Z):=
 match x with
 |some (.normal,E,S)=>k E S
 |r=>r
@[simp]def akx(E:bQ)(S:Z)(k):LN (J (.normal,E,S)) k=k E S:=rfl
@[simp]def asp(E:bQ)(S:Z)(k):LN (J (.R,E,S)) k=J (.R,E,S):=rfl
@[simp]def apf(id:Nat)(E:bQ)(S:Z)(k):LN (J (.E id,E,S)) k=J (.E id,E,S):=rfl
@[simp]def apg(k):LN M k=M:=rfl
def AZ(id:Nat)(x:Option (Out × bQ × Z)):Option (Out × bQ × Z):=
 match x with
 |some (.E Ik,E,S)=>if Ik=id then J (.normal,E,S)else J (.E Ik,E,S)
 |r=>r
@[simp]def ajY(id:Nat)(E:bQ)(S:Z):AZ id (J (.normal,E,S))=J (.normal,E,S):=rfl
@[simp]def aph(id:Nat)(E:bQ)(S:Z):AZ id (J (.R,E,S))=J (.R,E,S):=rfl
@[simp]theorem LO(id a:Nat)(E:bQ)(S:Z):AZ id (J (.E a,E,S))=if a=id then J (.normal,E,S)else J (.E a,E,S):=rfl
@[simp]def ann(id:Nat):AZ id M=M:=rfl
def By(x:Option (bQ × Z)):Option (Out × bQ × Z):=
 match x with
 |some (E,S)=>J (.normal,E,S)
 |none=>M
@[simp]def asq(E:bQ)(S:Z):By (J (E,S))=J (.normal,E,S):=rfl
@[simp]def asr:By M=M:=rfl
def aaX{α:Type}(v:Q)(x y:Option α):Option α:=
 match v with
 |.B G=>x
 |.B O=>y
 |_=>M
@[simp]def api{α:Type}(b:Bool)(x y:Option α):aaX (.B b) x y=if b then x else y:=by cases b<;>rfl
def aky(E:bQ)(S:Z):DC ax nk .skip E S=J (.normal,E,S):=(iZ _).2 ⟨1,rfl⟩
def apj(E:bQ)(S:Z):DC ax nk .ret E S=J (.R,E,S):=(iZ _).2 ⟨1,rfl⟩
def akz(id:Nat)(E:bQ)(S:Z):DC ax nk (.exit id) E S=J (.E id,E,S):=(iZ _).2 ⟨1,rfl⟩
def M4{c:KC}{E:bQ}{S:Z}{x:Option (Out × bQ × Z)}(h:∀n,eY (rF nk (DF ax nk)) (n+1) c E S=x):DC ax nk c E S=x:=by
 apply Cp;intro r;rw[iZ];constructor
 ·rintro⟨n,a⟩
  rw[<-h n];exact Gz (Nat.le_succ n) a
 ·intro b
  exact⟨1,by simp_all⟩
def akA(a:List (Nat × F))(l:List KD)(E:bQ)(S:Z):DC ax nk (.draw a l) E S=By (Mr (rF nk (DF ax nk)) a l E S):=by apply M4;intro n;rfl
def apk(l:List KO)(E:bQ)(S:Z):DC ax nk (.ops l) E S=By (ud (rF nk (DF ax nk)) l E S):=by apply M4;intro n;rfl
def Oc{x:Option (Out × bQ × Z)}{k:bQ->Z->Option (Out × bQ × Z)}{r:Out × bQ × Z}:LN x k=J r↔(∃E S,x=J (.normal,E,S)/\k E S=J r)\/(r.1≠.normal/\x=J r):=by
 cases x with
 |none=>simp
 |some y=>
  have⟨o,E,S⟩:=y;constructor
  ·intro h
   cases o with
   |normal=>exact .inl ⟨E,S,rfl,h⟩
   |R=>cases h;simp
   |E id=>cases h;simp
  ·rintro(⟨E1,S1,h1,h2⟩|⟨h1,h2⟩)
   ·simp_all
   ·cases h2
    cases o<;>trivial
def apl(a b:KC)(E:bQ)(S:Z):DC ax nk (.Q a b) E S=LN (DC ax nk a E S) λc d=>DC ax nk b c d:=by
 apply Cp;intro r;rw[iZ,Oc];constructor
 ·rintro⟨n,h⟩
  cases n<;>grind [eY,iZ]
 ·rintro(⟨E1,S1,h1,h2⟩|⟨h1,h2⟩)
  ·have⟨n,e⟩:=(iZ _).1 h1
   have⟨m,f⟩:=(iZ _).1 h2;refine⟨max n m+1, ?_⟩
   grind [eY,Gz,Nat.le_max_right]
  ·have⟨n,e⟩:=(iZ _).1 h2
   refine⟨n+1, ?_⟩
   grind [eY]
def akB(b:KC)(E:bQ)(S:Z):DC ax nk (.L b) E S=LN (DC ax nk b E S) λa c=>DC ax nk (.L b) a c:=by
 apply Cp;intro r;rw[iZ,Oc];constructor
 ·rintro⟨n,h⟩
  cases n<;>grind [eY,iZ]
 ·rintro(⟨E1,S1,h1,h2⟩|⟨h1,h2⟩)
  ·have⟨n,d⟩:=(iZ _).1 h1
   have⟨m,e⟩:=(iZ _).1 h2;refine⟨max n m+1, ?_⟩
   grind [eY,Gz,Nat.le_max_right]
  ·have⟨n,d⟩:=(iZ _).1 h2
   refine⟨n+1, ?_⟩
   grind [eY]
def akC(x:KV)(a b:KC)(E:bQ)(S:Z):DC ax nk (.cond x a b) E S=aaX (KE.ev E.sl x) (DC ax nk a E S) (DC ax nk b E S):=by
 apply Cp;intro r;rw[iZ];constructor
 ·rintro⟨n,h⟩
  cases n with
  |zero=>trivial
  |succ n=>
   simp only[eY]at h;split at h
   ·rename_i c
    rw[c];exact(iZ _).2 ⟨n,h⟩
   ·rename_i c
    rw[c];exact(iZ _).2 ⟨n,h⟩
   ·cases h
 ·intro h
  unfold aaX at h;split at h
  ·rename_i c
   have⟨n,d⟩:=(iZ _).1 h;exact⟨n+1,by simp only[eY,c];exact d⟩
  ·rename_i c
   have⟨n,d⟩:=(iZ _).1 h;exact⟨n+1,by simp only[eY,c];exact d⟩
  ·cases h
def VR{id:Nat}{x:Option (Out × bQ × Z)}{r:Out × bQ × Z}:AZ id x=J r↔(∃a E S,x=J (.E a,E,S)/\r=(if a=id then(.normal,E,S)else(.E a,E,S)))\/((∀a,r.1≠.E a)/\x=J r):=by
 cases x with
 |none=>simp
 |some y=>
  have⟨o,E,S⟩:=y;constructor
  ·intro h
   cases o with
   |normal=>cases h;simp
   |R=>cases h;simp
   |E a=>
    refine .inl ⟨a,E,S,rfl, ?_⟩
    grind [LO]
  ·rintro(⟨a,E1,S1,h1,h2⟩|⟨h1,h2⟩)
   ·grind [LO]
   ·cases h2
    cases o<;>simp_all
def afg(id:Nat)(b:KC)(E:bQ)(S:Z):DC ax nk (.block id b) E S=AZ id (DC ax nk b E S):=by
 apply Cp;intro r;rw[iZ,VR];constructor
 ·rintro⟨n,h⟩
  cases n with
  |zero=>simp[eY]at h
  |succ n=>
   simp only[eY]at h;split at h
   ·rename_i a d f c
    refine .inl ⟨a,d,f,(iZ _).2 ⟨n,c⟩, ?_⟩;split at h<;>rename_i j<;>simp[j]<;>simpa using h.symm
   ·rename_i i
    refine .inr ⟨λa e=>?_,(iZ _).2 ⟨n,h⟩⟩;have⟨o,d,f⟩:=r;cases e;exact i _ _ _ h
 ·rintro(⟨a,d,f,c,rfl⟩|⟨c,h2⟩)
  ·have⟨n,g⟩:=(iZ _).1 c
   refine⟨n+1, ?_⟩;simp only[eY,g];split<;>rfl
  ·have⟨n,g⟩:=(iZ _).1 h2
   refine⟨n+1, ?_⟩;simp only[eY,g];have⟨o,d,f⟩:=r;cases o with
   |E a=>exact absurd rfl (c a)
   |_=>rfl
def aaY{c d:KC}{K b:bQ}{S:Z}(h:∀n,eY (rF nk (DF ax nk)) (n+1) c K S=eY (rF nk (DF ax nk)) n d b S):DC ax nk c K S=DC ax nk d b S:=by
 apply Cp;intro r;rw[iZ,iZ];constructor
 ·rintro⟨n,a⟩
  cases n with
  |zero=>simp[eY]at a
  |succ n=>exact⟨n,by rw[<-h n];exact a⟩
 ·rintro⟨n,a⟩
  exact⟨n+1,by rw[h n];exact a⟩
def akD(l:List Nat)(k:KC)(K:bQ)(S:Z):DC ax nk (.dO l k) K S=DC ax nk k (K.dO l) S:=aaY λn=>rfl
def afh(b:KC)(K:bQ)(S:Z):DC ax nk (.scope b) K S=DC ax nk b K S:=aaY λn=>rfl
def akE(a:List (Nat × F))(l:List KD)(k:List KO)(K:bQ)(S:Z):DC ax nk (.VL a l k) K S=DC ax nk (.Q (.draw a l) (.ops k)) K S:=aaY λn=>rfl
def apm(K:bQ)(S:Z):DC ax nk .lab K S=J (.normal,K,S):=M4 λn=>rfl
def apn(K:bQ)(S:Z):DC ax nk .bad K S=M:=M4 λn=>rfl
def akF(l:List Nat)(k:KC)(K:bQ)(S:Z):DC ax nk (.ej l k) K S=DC ax nk k (K.ej l) S:=aaY λn=>rfl
end
end
section
variable{ax:FuncId->Option KF}{nk nk':NK}
end
end Go.Proofs.YtiaklhkdbokkhaaGreat.am
