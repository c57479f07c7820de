/- Parts. No condition. -/
import Derived.Test.YtampclodiifalaaGreatDoorQC
set_option linter.all false
namespace Go.Proofs.YtampclodiifalaaGreatDoor.am
open Go
section
noncomputable def lim{α:Type}(f:Nat->Option α):Option α:=
 open Classical in if h:∃a n,f n=some a then some (Classical.choose h)else none
theorem aaI{α:Type}{f:Nat->Option α}(mono:∀n m a,n<=m->f n=some a->f m=some a)(a:α):lim f=some a↔∃n,f n=some a:=by
 unfold lim;constructor
 ·intro h
  split at h
  ·rename_i h0
   cases h;exact Classical.choose_spec h0
  ·cases h
 ·rintro⟨n,hn⟩
  have h0:∃a n,f n=some a:=⟨a,n,hn⟩;rw[dif_pos h0];obtain⟨m,hm⟩:=Classical.choose_spec h0;have h1:=mono n (max n m) a (Nat.le_max_left _ _) hn;have h2:=mono m (max n m) _ (Nat.le_max_right _ _) hm;rw[h1]at h2;exact h2.symm
theorem DX{α:Type}{x y:Option α}(h:∀a,x=some a↔y=some a):x=y:=by
 cases hx:x with
 |some a=>exact((h a).1 hx).symm
 |none=>cases hy:y with
  |none=>rfl
  |some a=>have:=(h a).2 hy;rw[hx]at this;cases this
def CG(call:bU)(F:Nat->bU):Prop:=∀f args S r,call f args S=some r->∃m,∀m',m<=m'->F m' f args S=some r
section
variable{call:bU}{F:Nat->bU}
theorem OH(nk:NK)(H:CG call F):CG (lK nk call) (fun n=>lK nk (F n)):=by
 intro f args S r h;unfold lK at h⊢;cases hp:nk.rP f with
 |some p=>simp only[hp]at h⊢;exact⟨0,fun _ _=>h⟩
 |none=>simp only[hp]at h⊢;exact H f _ S r h
theorem ada(H:CG call F){aa:List (Option Nat)}{S:St}{f:AV}{args:List AV}{r:AV × List (Option Nat) × St}(h:Fp call aa S f args=some r):∃m,∀m',m<=m'->Fp (F m') aa S f args=some r:=by
 unfold Fp at h;split at h;·cases h
 rename_i f' ayF hc;split at h
 ·rename_i Oc
  split at h;·cases h
  rename_i mN ha;split at h;·cases h
  rename_i r0 S1 hr;obtain⟨m,hm⟩:=H _ _ _ _ hr;refine⟨m,fun m' hle=>?_⟩;unfold Fp;simp only[hc,Oc,if_true,ha,hm m' hle];exact h
 ·rename_i Oc
  split at h;·cases h
  rename_i mN ha;split at h;·cases h
  rename_i r0 S1 hr;obtain⟨m,hm⟩:=H _ _ _ _ hr;refine⟨m,fun m' hle=>?_⟩;unfold Fp;simp only[hc,if_neg Oc,ha,hm m' hle];exact h
theorem ak5(H:CG call F){K:bw}{S:St}{o:JZ}{r:AV × List (Option Nat) × St}(h:mf call K S o=some r):∃m,∀m',m<=m'->mf (F m') K S o=some r:=by
 cases o with
 |call f args=>exact ada H h
 |_=>exact⟨0,fun _ _=>h⟩
theorem aeJ(H:CG call F){K:bw}{S:St}{o:KO}{r:AV × bw × St}(h:MS call K S o=some r):∃m,∀m',m<=m'->MS (F m') K S o=some r:=by
 unfold MS at h;split at h
 ·rename_i hg
  split at h;case h_2=>cases h
  rename_i v aa S1 hv;obtain⟨m1,h1⟩:=ak5 H hv;refine⟨m1,fun m' hle=>?_⟩;unfold MS;simp only[hg,h1 m' hle];exact h
 ·rename_i hg
  refine⟨0,fun m' _=>?_⟩;unfold MS;simp only[hg];exact h
 ·cases h
theorem ak6(H:CG call F):∀(l:List KO){K:bw}{S:St}{r:bw × St},qV call l K S=some r->∃m,∀m',m<=m'->qV (F m') l K S=some r:=by
 intro l;induction l with
 |nil=>intro K S r h;exact⟨0,fun _ _=>h⟩
 |cons o l ih=>
  intro K S r h;simp only[qV]at h;split at h;case h_2=>cases h
  rename_i v K1 S1 hv;obtain⟨m1,h1⟩:=aeJ H hv;obtain⟨m2,h2⟩:=ih h;refine⟨max m1 m2,fun m' hle=>?_⟩;simp only[qV,h1 m' (by omega)];exact h2 m' (by omega)
theorem ak7(H:CG call F):∀(l:List KD){K:bw}{S:St}{ss:List St}{ls:List LM}{r:bw × St × List St × List LM},z4 call l K S ss ls=some r->∃m,∀m',m<=m'->z4 (F m') l K S ss ls=some r:=by
 intro l;induction l with
 |nil=>intro K S ss ls r h;exact⟨0,fun _ _=>h⟩
 |cons o l ih=>
  intro K S ss ls r h;simp only[z4]at h;split at h;case h_2=>cases h
  rename_i v K1 S1 hv;obtain⟨m1,h1⟩:=aeJ H hv;obtain⟨m2,h2⟩:=ih h;refine⟨max m1 m2,fun m' hle=>?_⟩;simp only[z4,h1 m' (by omega)];exact h2 m' (by omega)
theorem ak8(H:CG call F){al:List (Nat × List AV)}{l:List KD}{K:bw}{S:St}{r:bw × St}(h:MT call al l K S=some r):∃m,∀m',m<=m'->MT (F m') al l K S=some r:=by
 unfold MT at h;split at h;·cases h
 rename_i K1 S1 ss ls ht;obtain⟨m,hm⟩:=ak7 H _ ht;refine⟨m,fun m' hle=>?_⟩;unfold MT;simp only[hm m' hle];exact h
theorem JI(H:CG call F):∀(n:Nat){c:KC}{K:bw}{S:St}{r:Out × bw × St},dm call n c K S=some r->∃m,∀m' n',m<=m'->n<=n'->dm (F m') n' c K S=some r:=by
 intro n;induction n with
 |zero=>intro c K S r h;simp[dm]at h
 |succ n ih=>
  intro c K S r h;have up:∀n',n+1<=n'->∃k,n'=k+1/\n<=k:=fun n' h=>⟨n' -1,by omega,by omega⟩;cases c with
  |skip=>exact⟨0,fun m' n' _ hn=>by obtain⟨k,rfl,_⟩:=up n' hn;exact h⟩
  |ret=>exact⟨0,fun m' n' _ hn=>by obtain⟨k,rfl,_⟩:=up n' hn;exact h⟩
  |exit id=>exact⟨0,fun m' n' _ hn=>by obtain⟨k,rfl,_⟩:=up n' hn;exact h⟩
  |draw al l=>
   simp only[dm]at h;split at h;case h_2=>cases h
   rename_i K1 S1 h1;obtain⟨m,hm⟩:=ak8 H h1;refine⟨m,fun m' n' DP hn=>?_⟩;obtain⟨k,rfl,_⟩:=up n' hn;simp only[dm,hm m' DP];exact h
  |ops l=>
   simp only[dm]at h;split at h;case h_2=>cases h
   rename_i K1 S1 h1;obtain⟨m,hm⟩:=ak6 H _ h1;refine⟨m,fun m' n' DP hn=>?_⟩;obtain⟨k,rfl,_⟩:=up n' hn;simp only[dm,hm m' DP];exact h
  |seq a b=>
   simp only[dm]at h;split at h
   ·rename_i K1 S1 h1
    obtain⟨m1,g1⟩:=ih h1;obtain⟨m2,g2⟩:=ih h;refine⟨max m1 m2,fun m' n' DP hn=>?_⟩;obtain⟨k,rfl,hk⟩:=up n' hn;simp only[dm,g1 m' k (by omega) hk];exact g2 m' k (by omega) hk
   ·rename_i nV
    obtain⟨m1,g1⟩:=ih h;refine⟨m1,fun m' n' DP hn=>?_⟩;obtain⟨k,rfl,hk⟩:=up n' hn;simp only[dm,g1 m' k DP hk];obtain⟨o,K1,S1⟩:=r;cases o with
    |normal=>exact absurd h (nV _ _)
    |_=>rfl
  |cond x a b=>
   simp only[dm]at h;split at h
   ·rename_i hx
    obtain⟨m1,g1⟩:=ih h;refine⟨m1,fun m' n' DP hn=>?_⟩;obtain⟨k,rfl,hk⟩:=up n' hn;simp only[dm,hx];exact g1 m' k DP hk
   ·rename_i hx
    obtain⟨m1,g1⟩:=ih h;refine⟨m1,fun m' n' DP hn=>?_⟩;obtain⟨k,rfl,hk⟩:=up n' hn;simp only[dm,hx];exact g1 m' k DP hk
   ·cases h
  |block id b=>
   simp only[dm]at h;split at h
   ·rename_i mo K1 S1 h1
    obtain⟨m1,g1⟩:=ih h1;refine⟨m1,fun m' n' DP hn=>?_⟩;obtain⟨k,rfl,hk⟩:=up n' hn;simp only[dm,g1 m' k DP hk];exact h
   ·rename_i nV
    obtain⟨m1,g1⟩:=ih h;refine⟨m1,fun m' n' DP hn=>?_⟩;obtain⟨k,rfl,hk⟩:=up n' hn;simp only[dm,g1 m' k DP hk];obtain⟨o,K1,S1⟩:=r;cases o with
    |exit mo=>exact absurd h (nV _ _ _)
    |_=>rfl
  |loop b=>
   simp only[dm]at h;split at h
   ·rename_i K1 S1 h1
    obtain⟨m1,g1⟩:=ih h1;obtain⟨m2,g2⟩:=ih h;refine⟨max m1 m2,fun m' n' DP hn=>?_⟩;obtain⟨k,rfl,hk⟩:=up n' hn;simp only[dm,g1 m' k (by omega) hk];exact g2 m' k (by omega) hk
   ·rename_i nV
    obtain⟨m1,g1⟩:=ih h;refine⟨m1,fun m' n' DP hn=>?_⟩;obtain⟨k,rfl,hk⟩:=up n' hn;simp only[dm,g1 m' k DP hk];obtain⟨o,K1,S1⟩:=r;cases o with
    |normal=>exact absurd h (nV _ _)
    |_=>rfl
  |aN l b=>
   simp only[dm]at h;obtain⟨m1,g1⟩:=ih h;refine⟨m1,fun m' n' DP hn=>?_⟩;obtain⟨k,rfl,hk⟩:=up n' hn;simp only[dm];exact g1 m' k DP hk
  |norm l b=>
   simp only[dm]at h;obtain⟨m1,g1⟩:=ih h;refine⟨m1,fun m' n' DP hn=>?_⟩;obtain⟨k,rfl,hk⟩:=up n' hn;simp only[dm];exact g1 m' k DP hk
  |scope b=>
   simp only[dm]at h;obtain⟨m1,g1⟩:=ih h;refine⟨m1,fun m' n' DP hn=>?_⟩;obtain⟨k,rfl,hk⟩:=up n' hn;simp only[dm];exact g1 m' k DP hk
  |lab=>exact⟨0,fun m' n' _ hn=>by obtain⟨k,rfl,_⟩:=up n' hn;exact h⟩
  |bad=>simp only[dm]at h;cases h
  |VA al l k=>
   simp only[dm]at h;obtain⟨m1,g1⟩:=ih h;refine⟨m1,fun m' n' DP hn=>?_⟩;obtain⟨k,rfl,hk⟩:=up n' hn;simp only[dm];exact g1 m' k DP hk
end
section
variable{ax:FuncId->Option KF}{nk:NK}
def Bi(ax:FuncId->Option KF)(run:KC->bw->St->Option (Out × bw × St)):bU:=fun f args S=>
 match ax f with
 |none=>none
 |some k=>if k.nt<args.length then none else match run k.body ⟨tH 0 args,[],S.length⟩ S with
  |some (.exit _,_,_)=>none
  |some (_,K,S')=>match FQ K S' k.res with
   |none=>none
   |some vs=>cC f K.aa vs S S'
  |none=>none
theorem OI(n:Nat)(f:FuncId)(args:List AV)(S:St):zo ax nk (n+1) f args S=Bi ax (dm (lK nk (zo ax nk n)) n) f args S:=rfl
theorem MV{run run':KC->bw->St->Option (Out × bw × St)}(h:∀c K S r,run c K S=some r->run' c K S=some r)(f:FuncId)(args:List AV)(S:St)(r:AV × St)(e:Bi ax run f args S=some r):Bi ax run' f args S=some r:=by
 unfold Bi at e⊢;cases hk:ax f with
 |none=>simp[hk]at e
 |some k=>
  simp only[hk]at e⊢;split at e;·cases e
  rename_i hl;rw[if_neg hl];cases hr:run k.body ⟨tH 0 args,[],S.length⟩ S with
  |none=>simp[hr]at e
  |some x=>
   rw[h _ _ _ _ hr];rw[hr]at e;exact e
theorem WX:∀(n m:Nat),n<=m->∀f args S r,zo ax nk n f args S=some r->zo ax nk m f args S=some r:=by
 intro n;induction n with
 |zero=>intro m _ f args S r h;simp[zo]at h
 |succ n ih=>
  intro m hm f args S r h;obtain⟨k,rfl⟩:∃k,m=k+1:=⟨m -1,by omega⟩;rw[OI]at h⊢;refine MV (fun c K S r hc=>?_) _ _ _ _ h;have T:CG (lK nk (zo ax nk n)) (fun _=>lK nk (zo ax nk k)):=OH nk (F:=fun _=>zo ax nk k) fun f args S r h=>⟨0,fun _ _=>ih k (by omega) f args S r h⟩;obtain⟨m,DP⟩:=JI T n hc;exact DP m k (eJ _) (by omega)
noncomputable def DF(ax:FuncId->Option KF)(nk:NK):bU:=fun f args S=>lim fun n=>zo ax nk n f args S
noncomputable def DC(ax:FuncId->Option KF)(nk:NK)(c:KC)(K:bw)(S:St):Option (Out × bw × St):=lim fun n=>dm (lK nk (DF ax nk)) n c K S
theorem JJ{f:FuncId}{args:List AV}{S:St}(r:AV × St):DF ax nk f args S=some r↔∃n,zo ax nk n f args S=some r:=
 aaI (fun n m a h=>WX n m h f args S a) r
theorem ah8:CG (DF ax nk) (fun n=>zo ax nk n):=by intro f args S r h;obtain⟨n,hn⟩:=(JJ r).1 h;exact⟨n,fun m' hm=>WX n m' hm f args S r hn⟩
theorem aaJ(call:bU):CG call (fun _=>call):=fun _ _ _ _ h=>⟨0,fun _ _=>h⟩
theorem zL{call:bU}{n m:Nat}{c:KC}{K:bw}{S:St}{r:Out × bw × St}(h:n<=m)(e:dm call n c K S=some r):dm call m c K S=some r:=by obtain⟨k,hk⟩:=JI (aaJ call) n e;exact hk k m (eJ _) h
theorem fz{c:KC}{K:bw}{S:St}(r:Out × bw × St):DC ax nk c K S=some r↔∃n,dm (lK nk (DF ax nk)) n c K S=some r:=
 aaI (fun _ _ _ h e=>zL h e) r
theorem asz(f:FuncId)(args:List AV)(S:St):DF ax nk f args S=Bi ax (DC ax nk) f args S:=by
 apply DX;intro r;rw[JJ];constructor
 ·rintro⟨n,h⟩
  cases n with
  |zero=>simp[zo]at h
  |succ n=>
   rw[OI]at h;refine MV (fun c K S r hc=>?_) _ _ _ _ h;have T:CG (lK nk (zo ax nk n)) (fun _=>lK nk (DF ax nk)):=OH nk (F:=fun _=>DF ax nk) fun f args S r h=>⟨0,fun _ _=>(JJ r).2 ⟨n,h⟩⟩;obtain⟨m,hm⟩:=JI T n hc;exact(fz _).2 ⟨n,hm m n (eJ _) (eJ _)⟩
 ·intro h
  unfold Bi at h;cases hk:ax f with
  |none=>simp[hk]at h
  |some k=>
   simp only[hk]at h;split at h;·cases h
   rename_i hl;cases hc:DC ax nk k.body ⟨tH 0 args,[],S.length⟩ S with
   |none=>simp[hc]at h
   |some x=>
    obtain⟨n,hn⟩:=(fz x).1 hc;obtain⟨m,hm⟩:=JI (OH nk ah8) n hn;refine⟨max m n+1, ?_⟩;rw[OI];unfold Bi;simp only[hk];rw[if_neg hl,hm (max m n) (max m n) (by omega) (by omega)];rw[hc]at h;exact h
def Qa(x:Option (Out × bw × St))(k:bw->St->Option (Out × bw × St)):Option (Out × bw × St):=
 match x with
 |some (.normal,E,S)=>k E S
 |r=>r
@[simp]theorem ak9(E:bw)(S:St)(k):Qa (some (.normal,E,S)) k=k E S:=rfl
@[simp]theorem aqJ(E:bw)(S:St)(k):Qa (some (.ret,E,S)) k=some (.ret,E,S):=rfl
@[simp]theorem aor(id:Nat)(E:bw)(S:St)(k):Qa (some (.exit id,E,S)) k=some (.exit id,E,S):=rfl
@[simp]theorem aos(k):Qa none k=none:=rfl
def LO(id:Nat)(x:Option (Out × bw × St)):Option (Out × bw × St):=
 match x with
 |some (.exit mo,E,S)=>if mo=id then some (.normal,E,S)else some (.exit mo,E,S)
 |r=>r
@[simp]theorem akr(id:Nat)(E:bw)(S:St):LO id (some (.normal,E,S))=some (.normal,E,S):=rfl
@[simp]theorem aot(id:Nat)(E:bw)(S:St):LO id (some (.ret,E,S))=some (.ret,E,S):=rfl
@[simp]theorem Qb(id mo:Nat)(E:bw)(S:St):LO id (some (.exit mo,E,S))=if mo=id then some (.normal,E,S)else some (.exit mo,E,S):=rfl
@[simp]theorem amW(id:Nat):LO id none=none:=rfl
def CH(x:Option (bw × St)):Option (Out × bw × St):=
 match x with
 |some (E,S)=>some (.normal,E,S)
 |none=>none
@[simp]theorem aqK(E:bw)(S:St):CH (some (E,S))=some (.normal,E,S):=rfl
@[simp]theorem aqL:CH none=none:=rfl
def aeK{α:Type}(v:AV)(x y:Option α):Option α:=
 match v with
 |.bool true=>x
 |.bool false=>y
 |_=>none
@[simp]theorem aou{α:Type}(b:Bool)(x y:Option α):aeK (.bool b) x y=if b then x else y:=by cases b<;>rfl
theorem ak_(E:bw)(S:St):DC ax nk .skip E S=some (.normal,E,S):=(fz _).2 ⟨1,rfl⟩
theorem aov(E:bw)(S:St):DC ax nk .ret E S=some (.ret,E,S):=(fz _).2 ⟨1,rfl⟩
theorem ala(id:Nat)(E:bw)(S:St):DC ax nk (.exit id) E S=some (.exit id,E,S):=(fz _).2 ⟨1,rfl⟩
theorem RP{c:KC}{E:bw}{S:St}{x:Option (Out × bw × St)}(h:∀n,dm (lK nk (DF ax nk)) (n+1) c E S=x):DC ax nk c E S=x:=by
 apply DX;intro r;rw[fz];constructor
 ·rintro⟨n,hn⟩
  rw[<-h n];exact zL (Nat.le_succ n) hn
 ·intro hx
  exact⟨1,by rw[h 0];exact hx⟩
theorem alb(al:List (Nat × List AV))(l:List KD)(E:bw)(S:St):DC ax nk (.draw al l) E S=CH (MT (lK nk (DF ax nk)) al l E S):=by
 apply RP;intro n;simp only[dm];cases MT (lK nk (DF ax nk)) al l E S with
 |none=>rfl
 |some x=>rfl
theorem aow(l:List KO)(E:bw)(S:St):DC ax nk (.ops l) E S=CH (qV (lK nk (DF ax nk)) l E S):=by
 apply RP;intro n;simp only[dm];cases qV (lK nk (DF ax nk)) l E S with
 |none=>rfl
 |some x=>rfl
theorem Ti{x:Option (Out × bw × St)}{k:bw->St->Option (Out × bw × St)}{r:Out × bw × St}:Qa x k=some r↔(∃E S,x=some (.normal,E,S)/\k E S=some r)\/(r.1≠.normal/\x=some r):=by
 cases x with
 |none=>simp
 |some y=>
  obtain⟨o,E,S⟩:=y;constructor
  ·intro h
   cases o with
   |normal=>exact .inl ⟨E,S,rfl,h⟩
   |ret=>cases h;exact .inr ⟨by simp,rfl⟩
   |exit id=>cases h;exact .inr ⟨by simp,rfl⟩
  ·rintro(⟨E1,S1,h1,h2⟩|⟨h1,h2⟩)
   ·cases h1;exact h2
   ·cases h2
    cases o with
    |normal=>exact absurd rfl h1
    |ret=>rfl
    |exit id=>rfl
theorem aox(a b:KC)(E:bw)(S:St):DC ax nk (.seq a b) E S=Qa (DC ax nk a E S) fun E' S'=>DC ax nk b E' S':=by
 apply DX;intro r;rw[fz,Ti];constructor
 ·rintro⟨n,h⟩
  cases n with
  |zero=>simp[dm]at h
  |succ n=>
   simp only[dm]at h;split at h
   ·rename_i E1 S1 h1
    exact .inl ⟨E1,S1,(fz _).2 ⟨n,h1⟩,(fz _).2 ⟨n,h⟩⟩
   ·rename_i nV
    refine .inr ⟨fun e=>?_,(fz _).2 ⟨n,h⟩⟩;obtain⟨o,E1,S1⟩:=r;cases e;exact nV _ _ h
 ·rintro(⟨E1,S1,h1,h2⟩|⟨h1,h2⟩)
  ·obtain⟨n,hn⟩:=(fz _).1 h1
   obtain⟨m,hm⟩:=(fz _).1 h2;refine⟨max n m+1, ?_⟩;simp only[dm];rw[zL (Nat.le_max_left n m) hn];exact zL (Nat.le_max_right n m) hm
  ·obtain⟨n,hn⟩:=(fz _).1 h2
   refine⟨n+1, ?_⟩;simp only[dm,hn];obtain⟨o,E1,S1⟩:=r;cases o with
   |normal=>exact absurd rfl h1
   |_=>rfl
theorem alc(b:KC)(E:bw)(S:St):DC ax nk (.loop b) E S=Qa (DC ax nk b E S) fun E' S'=>DC ax nk (.loop b) E' S':=by
 apply DX;intro r;rw[fz,Ti];constructor
 ·rintro⟨n,h⟩
  cases n with
  |zero=>simp[dm]at h
  |succ n=>
   simp only[dm]at h;split at h
   ·rename_i E1 S1 h1
    exact .inl ⟨E1,S1,(fz _).2 ⟨n,h1⟩,(fz _).2 ⟨n,h⟩⟩
   ·rename_i nV
    refine .inr ⟨fun e=>?_,(fz _).2 ⟨n,h⟩⟩;obtain⟨o,E1,S1⟩:=r;cases e;exact nV _ _ h
 ·rintro(⟨E1,S1,h1,h2⟩|⟨h1,h2⟩)
  ·obtain⟨n,hn⟩:=(fz _).1 h1
   obtain⟨m,hm⟩:=(fz _).1 h2;refine⟨max n m+1, ?_⟩;simp only[dm];rw[zL (Nat.le_max_left n m) hn];exact zL (Nat.le_max_right n m) hm
  ·obtain⟨n,hn⟩:=(fz _).1 h2
   refine⟨n+1, ?_⟩;simp only[dm,hn];obtain⟨o,E1,S1⟩:=r;cases o with
   |normal=>exact absurd rfl h1
   |_=>rfl
theorem ald(x:KV)(a b:KC)(E:bw)(S:St):DC ax nk (.cond x a b) E S=aeK (KE.ev E.sl x) (DC ax nk a E S) (DC ax nk b E S):=by
 apply DX;intro r;rw[fz];constructor
 ·rintro⟨n,h⟩
  cases n with
  |zero=>simp[dm]at h
  |succ n=>
   simp only[dm]at h;split at h
   ·rename_i hx
    rw[hx];exact(fz _).2 ⟨n,h⟩
   ·rename_i hx
    rw[hx];exact(fz _).2 ⟨n,h⟩
   ·cases h
 ·intro h
  unfold aeK at h;split at h
  ·rename_i hx
   obtain⟨n,hn⟩:=(fz _).1 h;exact⟨n+1,by simp only[dm,hx];exact hn⟩
  ·rename_i hx
   obtain⟨n,hn⟩:=(fz _).1 h;exact⟨n+1,by simp only[dm,hx];exact hn⟩
  ·cases h
theorem aaK{id:Nat}{x:Option (Out × bw × St)}{r:Out × bw × St}:LO id x=some r↔(∃mo E S,x=some (.exit mo,E,S)/\r=(if mo=id then(.normal,E,S)else(.exit mo,E,S)))\/((∀mo,r.1≠.exit mo)/\x=some r):=by
 cases x with
 |none=>simp
 |some y=>
  obtain⟨o,E,S⟩:=y;constructor
  ·intro h
   cases o with
   |normal=>cases h;exact .inr ⟨by simp,rfl⟩
   |ret=>cases h;exact .inr ⟨by simp,rfl⟩
   |exit mo=>
    refine .inl ⟨mo,E,S,rfl, ?_⟩;simp only[Qb]at h;split at h<;>rename_i he<;>cases h<;>simp[he]
  ·rintro(⟨mo,E1,S1,h1,h2⟩|⟨h1,h2⟩)
   ·cases h1
    subst h2;simp only[Qb];split<;>rfl
   ·cases h2
    cases o with
    |normal=>rfl
    |ret=>rfl
    |exit mo=>exact absurd rfl (h1 mo)
theorem ah9(id:Nat)(b:KC)(E:bw)(S:St):DC ax nk (.block id b) E S=LO id (DC ax nk b E S):=by
 apply DX;intro r;rw[fz,aaK];constructor
 ·rintro⟨n,h⟩
  cases n with
  |zero=>simp[dm]at h
  |succ n=>
   simp only[dm]at h;split at h
   ·rename_i mo E1 S1 h1
    refine .inl ⟨mo,E1,S1,(fz _).2 ⟨n,h1⟩, ?_⟩;split at h<;>rename_i he<;>simp[he]<;>simpa using h.symm
   ·rename_i nV
    refine .inr ⟨fun mo e=>?_,(fz _).2 ⟨n,h⟩⟩;obtain⟨o,E1,S1⟩:=r;cases e;exact nV _ _ _ h
 ·rintro(⟨mo,E1,S1,h1,rfl⟩|⟨h1,h2⟩)
  ·obtain⟨n,hn⟩:=(fz _).1 h1
   refine⟨n+1, ?_⟩;simp only[dm,hn];split<;>rfl
  ·obtain⟨n,hn⟩:=(fz _).1 h2
   refine⟨n+1, ?_⟩;simp only[dm,hn];obtain⟨o,E1,S1⟩:=r;cases o with
   |exit mo=>exact absurd rfl (h1 mo)
   |_=>rfl
theorem aeL{c c':KC}{K K':bw}{S:St}(h:∀n,dm (lK nk (DF ax nk)) (n+1) c K S=dm (lK nk (DF ax nk)) n c' K' S):DC ax nk c K S=DC ax nk c' K' S:=by
 apply DX;intro r;rw[fz,fz];constructor
 ·rintro⟨n,hn⟩
  cases n with
  |zero=>simp[dm]at hn
  |succ n=>exact⟨n,by rw[<-h n];exact hn⟩
 ·rintro⟨n,hn⟩
  exact⟨n+1,by rw[h n];exact hn⟩
theorem ale(l:List Nat)(k:KC)(K:bw)(S:St):DC ax nk (.aN l k) K S=DC ax nk k (K.aN l) S:=aeL fun n=>rfl
theorem asA(b:KC)(K:bw)(S:St):DC ax nk (.scope b) K S=DC ax nk b K S:=aeL fun n=>rfl
theorem alf(al:List (Nat × List AV))(l:List KD)(k:List KO)(K:bw)(S:St):DC ax nk (.VA al l k) K S=DC ax nk (.seq (.draw al l) (.ops k)) K S:=aeL fun n=>rfl
theorem awC(K:bw)(S:St):DC ax nk .lab K S=some (.normal,K,S):=RP fun n=>rfl
theorem awD(K:bw)(S:St):DC ax nk .bad K S=none:=RP fun n=>rfl
theorem auV(l:List Nat)(k:KC)(K:bw)(S:St):DC ax nk (.norm l k) K S=DC ax nk k (K.norm l) S:=aeL fun n=>rfl
end
end
end Go.Proofs.YtampclodiifalaaGreatDoor.am
