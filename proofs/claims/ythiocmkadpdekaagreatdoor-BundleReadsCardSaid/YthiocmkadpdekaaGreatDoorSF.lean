/- Parts. No condition. -/
import Derived.Test.YthiocmkadpdekaaGreatDoorSD
set_option linter.all false
namespace Go.Proofs.YthiocmkadpdekaaGreatDoor.am
open Go
section
noncomputable def lim{α:Type}(f:Nat→Option α):Option α:=
 open Classical in if h:∃a n,f n=some a then some (Classical.choose h)else none
theorem lim_some{α:Type}{f:Nat→Option α}(mono:∀n m a,n≤m→f n=some a→f m=some a)(a:α):lim f=some a↔∃n,f n=some a:=by
 unfold lim
 constructor
 ·intro h
  split at h
  ·rename_i h0
   cases h
   exact Classical.choose_spec h0
  ·cases h
 ·rintro⟨n,hn⟩
  have h0:∃a n,f n=some a:=⟨a,n,hn⟩
  rw[dif_pos h0]
  obtain⟨m,hm⟩:=Classical.choose_spec h0
  have h1:=mono n (max n m) a (Nat.le_max_left _ _) hn
  have h2:=mono m (max n m) _ (Nat.le_max_right _ _) hm
  rw[h1]at h2
  exact h2.symm
theorem opt_ext{α:Type}{x y:Option α}(h:∀a,x=some a↔y=some a):x=y:=by
 cases hx:x with
 |some a=>exact((h a).1 hx).symm
 |none=>cases hy:y with
  |none=>rfl
  |some a=>have:=(h a).2 hy;rw[hx]at this;cases this
def Tends(call:Caller)(F:Nat→Caller):Prop:=∀f args S r,call f args S=some r→∃m,∀m',m≤m'→F m' f args S=some r
section
variable{call:Caller}{F:Nat→Caller}
theorem tends_via(nk:NK)(H:Tends call F):Tends (viaK nk call) (fun n=>viaK nk (F n)):=by
 intro f args S r h
 unfold viaK at h⊢
 cases hp:nk.prim f with
 |some p=>simp only[hp]at h⊢;exact⟨0,fun _ _=>h⟩
 |none=>simp only[hp]at h⊢;exact H f _ S r h
theorem cont_callK(H:Tends call F){tips:List (Option Nat)}{S:St}{f:AV}{args:List AV}{r:AV × List (Option Nat) × St}(h:callK call tips S f args=some r):∃m,∀m',m≤m'→callK (F m') tips S f args=some r:=by
 unfold callK at h
 split at h
 ·cases h
 rename_i f' args1 hc
 split at h
 ·rename_i hr0
  split at h
  ·cases h
  rename_i args' ha
  split at h
  ·cases h
  rename_i r0 S1 hr
  obtain⟨m,hm⟩:=H _ _ _ _ hr
  refine⟨m,fun m' hle=>?_⟩
  unfold callK
  simp only[hc,hr0,if_true,ha,hm m' hle]
  exact h
 ·rename_i hr0
  split at h
  ·cases h
  rename_i args' ha
  split at h
  ·cases h
  rename_i r0 S1 hr
  obtain⟨m,hm⟩:=H _ _ _ _ hr
  refine⟨m,fun m' hle=>?_⟩
  unfold callK
  simp only[hc,if_neg hr0,ha,hm m' hle]
  exact h
theorem cont_k1(H:Tends call F){K:KEnv}{S:St}{o:KOp}{r:AV × List (Option Nat) × St}(h:evK1 call K S o=some r):∃m,∀m',m≤m'→evK1 (F m') K S o=some r:=by
 cases o with
 |call f args=>exact cont_callK H h
 |own f args=>
  simp only[evK1]at h
  unfold ownCall at h
  split at h
  ·cases h
  rename_i args' k rest ha
  split at h
  ·cases h
  rename_i r0 S1 hr
  obtain⟨m,hm⟩:=H _ _ _ _ hr
  refine⟨m,fun m' hle=>?_⟩
  simp only[evK1,ownCall,ha,hm m' hle]
  exact h
 |inv tbl x args=>
  simp only[evK1]at h
  split at h
  case h_2=>cases h
  rename_i g v hg
  obtain⟨m,hm⟩:=cont_callK H h
  refine⟨m,fun m' hle=>?_⟩
  simp only[evK1,hg]
  exact hm m' hle
 |_=>exact⟨0,fun _ _=>h⟩
theorem cont_ko(H:Tends call F){K:KEnv}{S:St}{o:KO}{r:AV × KEnv × St}(h:evKO call K S o=some r):∃m,∀m',m≤m'→evKO (F m') K S o=some r:=by
 unfold evKO at h
 split at h
 ·rename_i hg
  split at h
  case h_2=>cases h
  rename_i v tips S1 hv
  obtain⟨m1,h1⟩:=cont_k1 H hv
  refine⟨m1,fun m' hle=>?_⟩
  unfold evKO
  simp only[hg,h1 m' hle]
  exact h
 ·rename_i hg
  refine⟨0,fun m' _=>?_⟩
  unfold evKO
  simp only[hg]
  exact h
 ·cases h
theorem cont_ks(H:Tends call F):∀(l:List KO){K:KEnv}{S:St}{r:KEnv × St},evKs call l K S=some r→∃m,∀m',m≤m'→evKs (F m') l K S=some r:=by
 intro l
 induction l with
 |nil=>intro K S r h;exact⟨0,fun _ _=>h⟩
 |cons o l ih=>
  intro K S r h
  simp only[evKs]at h
  split at h
  case h_2=>cases h
  rename_i v K1 S1 hv
  obtain⟨m1,h1⟩:=cont_ko H hv
  obtain⟨m2,h2⟩:=ih h
  refine⟨max m1 m2,fun m' hle=>?_⟩
  simp only[evKs,h1 m' (by omega)]
  exact h2 m' (by omega)
theorem cont_tr(H:Tends call F):∀(l:List KD){K:KEnv}{S:St}{ss:List St}{ls:List KLd}{r:KEnv × St × List St × List KLd},evKTr call l K S ss ls=some r→∃m,∀m',m≤m'→evKTr (F m') l K S ss ls=some r:=by
 intro l
 induction l with
 |nil=>intro K S ss ls r h;exact⟨0,fun _ _=>h⟩
 |cons o l ih=>
  intro K S ss ls r h
  simp only[evKTr]at h
  split at h
  case h_2=>cases h
  rename_i v K1 S1 hv
  obtain⟨m1,h1⟩:=cont_ko H hv
  obtain⟨m2,h2⟩:=ih h
  refine⟨max m1 m2,fun m' hle=>?_⟩
  simp only[evKTr,h1 m' (by omega)]
  exact h2 m' (by omega)
theorem cont_kd(H:Tends call F){al:List (Nat × List AV)}{l:List KD}{K:KEnv}{S:St}{r:KEnv × St}(h:evKD call al l K S=some r):∃m,∀m',m≤m'→evKD (F m') al l K S=some r:=by
 unfold evKD at h
 split at h
 ·cases h
 rename_i K1 S1 ss ls ht
 obtain⟨m,hm⟩:=cont_tr H _ ht
 refine⟨m,fun m' hle=>?_⟩
 unfold evKD
 simp only[hm m' hle]
 exact h
theorem cont_code(H:Tends call F):∀(n:Nat){c:KC}{K:KEnv}{S:St}{r:Out × KEnv × St},evKC call n c K S=some r→∃m,∀m' n',m≤m'→n≤n'→evKC (F m') n' c K S=some r:=by
 intro n
 induction n with
 |zero=>intro c K S r h;simp[evKC]at h
 |succ n ih=>
  intro c K S r h
  have up:∀n',n+1≤n'→∃k,n'=k+1∧n≤k:=fun n' h=>⟨n' -1,by omega,by omega⟩
  cases c with
  |skip=>exact⟨0,fun m' n' _ hn=>by obtain⟨k,rfl,_⟩:=up n' hn;exact h⟩
  |ret=>exact⟨0,fun m' n' _ hn=>by obtain⟨k,rfl,_⟩:=up n' hn;exact h⟩
  |exit id=>exact⟨0,fun m' n' _ hn=>by obtain⟨k,rfl,_⟩:=up n' hn;exact h⟩
  |draw al l=>
   simp only[evKC]at h
   split at h
   case h_2=>cases h
   rename_i K1 S1 h1
   obtain⟨m,hm⟩:=cont_kd H h1
   refine⟨m,fun m' n' hm' hn=>?_⟩
   obtain⟨k,rfl,_⟩:=up n' hn
   simp only[evKC,hm m' hm']
   exact h
  |ops l=>
   simp only[evKC]at h
   split at h
   case h_2=>cases h
   rename_i K1 S1 h1
   obtain⟨m,hm⟩:=cont_ks H _ h1
   refine⟨m,fun m' n' hm' hn=>?_⟩
   obtain⟨k,rfl,_⟩:=up n' hn
   simp only[evKC,hm m' hm']
   exact h
  |seq a b=>
   simp only[evKC]at h
   split at h
   ·rename_i K1 S1 h1
    obtain⟨m1,g1⟩:=ih h1
    obtain⟨m2,g2⟩:=ih h
    refine⟨max m1 m2,fun m' n' hm' hn=>?_⟩
    obtain⟨k,rfl,hk⟩:=up n' hn
    simp only[evKC,g1 m' k (by omega) hk]
    exact g2 m' k (by omega) hk
   ·rename_i hne
    obtain⟨m1,g1⟩:=ih h
    refine⟨m1,fun m' n' hm' hn=>?_⟩
    obtain⟨k,rfl,hk⟩:=up n' hn
    simp only[evKC,g1 m' k hm' hk]
    obtain⟨o,K1,S1⟩:=r
    cases o with
    |normal=>exact absurd h (hne _ _)
    |_=>rfl
  |cond x a b=>
   simp only[evKC]at h
   split at h
   ·rename_i hx
    obtain⟨m1,g1⟩:=ih h
    refine⟨m1,fun m' n' hm' hn=>?_⟩
    obtain⟨k,rfl,hk⟩:=up n' hn
    simp only[evKC,hx]
    exact g1 m' k hm' hk
   ·rename_i hx
    obtain⟨m1,g1⟩:=ih h
    refine⟨m1,fun m' n' hm' hn=>?_⟩
    obtain⟨k,rfl,hk⟩:=up n' hn
    simp only[evKC,hx]
    exact g1 m' k hm' hk
   ·cases h
  |block id b=>
   simp only[evKC]at h
   split at h
   ·rename_i id' K1 S1 h1
    obtain⟨m1,g1⟩:=ih h1
    refine⟨m1,fun m' n' hm' hn=>?_⟩
    obtain⟨k,rfl,hk⟩:=up n' hn
    simp only[evKC,g1 m' k hm' hk]
    exact h
   ·rename_i hne
    obtain⟨m1,g1⟩:=ih h
    refine⟨m1,fun m' n' hm' hn=>?_⟩
    obtain⟨k,rfl,hk⟩:=up n' hn
    simp only[evKC,g1 m' k hm' hk]
    obtain⟨o,K1,S1⟩:=r
    cases o with
    |exit id'=>exact absurd h (hne _ _ _)
    |_=>rfl
  |loop b=>
   simp only[evKC]at h
   split at h
   ·rename_i K1 S1 h1
    obtain⟨m1,g1⟩:=ih h1
    obtain⟨m2,g2⟩:=ih h
    refine⟨max m1 m2,fun m' n' hm' hn=>?_⟩
    obtain⟨k,rfl,hk⟩:=up n' hn
    simp only[evKC,g1 m' k (by omega) hk]
    exact g2 m' k (by omega) hk
   ·rename_i hne
    obtain⟨m1,g1⟩:=ih h
    refine⟨m1,fun m' n' hm' hn=>?_⟩
    obtain⟨k,rfl,hk⟩:=up n' hn
    simp only[evKC,g1 m' k hm' hk]
    obtain⟨o,K1,S1⟩:=r
    cases o with
    |normal=>exact absurd h (hne _ _)
    |_=>rfl
  |keep l b=>
   simp only[evKC]at h
   obtain⟨m1,g1⟩:=ih h
   refine⟨m1,fun m' n' hm' hn=>?_⟩
   obtain⟨k,rfl,hk⟩:=up n' hn
   simp only[evKC]
   exact g1 m' k hm' hk
  |norm l b=>
   simp only[evKC]at h
   obtain⟨m1,g1⟩:=ih h
   refine⟨m1,fun m' n' hm' hn=>?_⟩
   obtain⟨k,rfl,hk⟩:=up n' hn
   simp only[evKC]
   exact g1 m' k hm' hk
  |scope b=>
   simp only[evKC]at h
   obtain⟨m1,g1⟩:=ih h
   refine⟨m1,fun m' n' hm' hn=>?_⟩
   obtain⟨k,rfl,hk⟩:=up n' hn
   simp only[evKC]
   exact g1 m' k hm' hk
  |lab=>exact⟨0,fun m' n' _ hn=>by obtain⟨k,rfl,_⟩:=up n' hn;exact h⟩
  |bad=>simp only[evKC]at h;cases h
  |fuse al l k=>
   simp only[evKC]at h
   obtain⟨m1,g1⟩:=ih h
   refine⟨m1,fun m' n' hm' hn=>?_⟩
   obtain⟨k,rfl,hk⟩:=up n' hn
   simp only[evKC]
   exact g1 m' k hm' hk
end
section
variable{lib:FuncId→Option KF}{nk:NK}
def callOfK(lib:FuncId→Option KF)(run:KC→KEnv→St→Option (Out × KEnv × St)):Caller:=fun f args S=>
 match lib f with
 |none=>none
 |some k=>if k.nt<args.length then none else match run k.body ⟨argsK 0 (ownA f args),ownT f args,S.length⟩ S with
  |some (.exit _,_,_)=>none
  |some (_,K,S')=>match evKR K S' k.res with
   |none=>none
   |some vs=>resK f K.tips vs S S'
  |none=>none
theorem evKF_succ(n:Nat)(f:FuncId)(args:List AV)(S:St):evKF lib nk (n+1) f args S=callOfK lib (evKC (viaK nk (evKF lib nk n)) n) f args S:=rfl
theorem callOfK_mono{run run':KC→KEnv→St→Option (Out × KEnv × St)}(h:∀c K S r,run c K S=some r→run' c K S=some r)(f:FuncId)(args:List AV)(S:St)(r:AV × St)(e:callOfK lib run f args S=some r):callOfK lib run' f args S=some r:=by
 unfold callOfK at e⊢
 cases hk:lib f with
 |none=>simp[hk]at e
 |some k=>
  simp only[hk]at e⊢
  split at e
  ·cases e
  rename_i hl
  rw[if_neg hl]
  cases hr:run k.body ⟨argsK 0 (ownA f args),ownT f args,S.length⟩ S with
  |none=>simp[hr]at e
  |some x=>
   rw[h _ _ _ _ hr]
   rw[hr]at e
   exact e
theorem evKF_mono:∀(n m:Nat),n≤m→∀f args S r,evKF lib nk n f args S=some r→evKF lib nk m f args S=some r:=by
 intro n
 induction n with
 |zero=>intro m _ f args S r h;simp[evKF]at h
 |succ n ih=>
  intro m hm f args S r h
  obtain⟨k,rfl⟩:∃k,m=k+1:=⟨m -1,by omega⟩
  rw[evKF_succ]at h⊢
  refine callOfK_mono (fun c K S r hc=>?_) _ _ _ _ h
  have T:Tends (viaK nk (evKF lib nk n)) (fun _=>viaK nk (evKF lib nk k)):=tends_via nk (F:=fun _=>evKF lib nk k) fun f args S r h=>⟨0,fun _ _=>ih k (by omega) f args S r h⟩
  obtain⟨m,hm'⟩:=cont_code T n hc
  exact hm' m k (Nat.le_refl _) (by omega)
noncomputable def DF(lib:FuncId→Option KF)(nk:NK):Caller:=fun f args S=>lim fun n=>evKF lib nk n f args S
noncomputable def DC(lib:FuncId→Option KF)(nk:NK)(c:KC)(K:KEnv)(S:St):Option (Out × KEnv × St):=lim fun n=>evKC (viaK nk (DF lib nk)) n c K S
theorem DF_some{f:FuncId}{args:List AV}{S:St}(r:AV × St):DF lib nk f args S=some r↔∃n,evKF lib nk n f args S=some r:=
 lim_some (fun n m a h=>evKF_mono n m h f args S a) r
theorem tends_DF:Tends (DF lib nk) (fun n=>evKF lib nk n):=by
 intro f args S r h
 obtain⟨n,hn⟩:=(DF_some r).1 h
 exact⟨n,fun m' hm=>evKF_mono n m' hm f args S r hn⟩
theorem tends_const(call:Caller):Tends call (fun _=>call):=fun _ _ _ _ h=>⟨0,fun _ _=>h⟩
theorem evKC_mono{call:Caller}{n m:Nat}{c:KC}{K:KEnv}{S:St}{r:Out × KEnv × St}(h:n≤m)(e:evKC call n c K S=some r):evKC call m c K S=some r:=by
 obtain⟨k,hk⟩:=cont_code (tends_const call) n e
 exact hk k m (Nat.le_refl _) h
theorem DC_some{c:KC}{K:KEnv}{S:St}(r:Out × KEnv × St):DC lib nk c K S=some r↔∃n,evKC (viaK nk (DF lib nk)) n c K S=some r:=
 lim_some (fun _ _ _ h e=>evKC_mono h e) r
theorem DF_eq(f:FuncId)(args:List AV)(S:St):DF lib nk f args S=callOfK lib (DC lib nk) f args S:=by
 apply opt_ext
 intro r
 rw[DF_some]
 constructor
 ·rintro⟨n,h⟩
  cases n with
  |zero=>simp[evKF]at h
  |succ n=>
   rw[evKF_succ]at h
   refine callOfK_mono (fun c K S r hc=>?_) _ _ _ _ h
   have T:Tends (viaK nk (evKF lib nk n)) (fun _=>viaK nk (DF lib nk)):=tends_via nk (F:=fun _=>DF lib nk) fun f args S r h=>⟨0,fun _ _=>(DF_some r).2 ⟨n,h⟩⟩
   obtain⟨m,hm⟩:=cont_code T n hc
   exact(DC_some _).2 ⟨n,hm m n (Nat.le_refl _) (Nat.le_refl _)⟩
 ·intro h
  unfold callOfK at h
  cases hk:lib f with
  |none=>simp[hk]at h
  |some k=>
   simp only[hk]at h
   split at h
   ·cases h
   rename_i hl
   cases hc:DC lib nk k.body ⟨argsK 0 (ownA f args),ownT f args,S.length⟩ S with
   |none=>simp[hc]at h
   |some x=>
    obtain⟨n,hn⟩:=(DC_some x).1 hc
    obtain⟨m,hm⟩:=cont_code (tends_via nk tends_DF) n hn
    refine⟨max m n+1, ?_⟩
    rw[evKF_succ]
    unfold callOfK
    simp only[hk]
    rw[if_neg hl,hm (max m n) (max m n) (by omega) (by omega)]
    rw[hc]at h
    exact h
def thenC(x:Option (Out × KEnv × St))(k:KEnv→St→Option (Out × KEnv × St)):Option (Out × KEnv × St):=
 match x with
 |some (.normal,E,S)=>k E S
 |r=>r
@[simp]theorem thenC_normal(E:KEnv)(S:St)(k):thenC (some (.normal,E,S)) k=k E S:=rfl
@[simp]theorem thenC_ret(E:KEnv)(S:St)(k):thenC (some (.ret,E,S)) k=some (.ret,E,S):=rfl
@[simp]theorem thenC_exit(id:Nat)(E:KEnv)(S:St)(k):thenC (some (.exit id,E,S)) k=some (.exit id,E,S):=rfl
@[simp]theorem thenC_none(k):thenC none k=none:=rfl
def blockC(id:Nat)(x:Option (Out × KEnv × St)):Option (Out × KEnv × St):=
 match x with
 |some (.exit id',E,S)=>if id'=id then some (.normal,E,S)else some (.exit id',E,S)
 |r=>r
@[simp]theorem blockC_normal(id:Nat)(E:KEnv)(S:St):blockC id (some (.normal,E,S))=some (.normal,E,S):=rfl
@[simp]theorem blockC_ret(id:Nat)(E:KEnv)(S:St):blockC id (some (.ret,E,S))=some (.ret,E,S):=rfl
@[simp]theorem blockC_exit(id id':Nat)(E:KEnv)(S:St):blockC id (some (.exit id',E,S))=if id'=id then some (.normal,E,S)else some (.exit id',E,S):=rfl
@[simp]theorem blockC_none(id:Nat):blockC id none=none:=rfl
def regC(x:Option (KEnv × St)):Option (Out × KEnv × St):=
 match x with
 |some (E,S)=>some (.normal,E,S)
 |none=>none
@[simp]theorem regC_some(E:KEnv)(S:St):regC (some (E,S))=some (.normal,E,S):=rfl
@[simp]theorem regC_none:regC none=none:=rfl
def condC{α:Type}(v:AV)(x y:Option α):Option α:=
 match v with
 |.bool true=>x
 |.bool false=>y
 |_=>none
@[simp]theorem condC_bool{α:Type}(b:Bool)(x y:Option α):condC (.bool b) x y=if b then x else y:=by cases b<;>rfl
theorem DC_skip(E:KEnv)(S:St):DC lib nk .skip E S=some (.normal,E,S):=(DC_some _).2 ⟨1,rfl⟩
theorem DC_ret(E:KEnv)(S:St):DC lib nk .ret E S=some (.ret,E,S):=(DC_some _).2 ⟨1,rfl⟩
theorem DC_exit(id:Nat)(E:KEnv)(S:St):DC lib nk (.exit id) E S=some (.exit id,E,S):=(DC_some _).2 ⟨1,rfl⟩
theorem DC_step{c:KC}{E:KEnv}{S:St}{x:Option (Out × KEnv × St)}(h:∀n,evKC (viaK nk (DF lib nk)) (n+1) c E S=x):DC lib nk c E S=x:=by
 apply opt_ext
 intro r
 rw[DC_some]
 constructor
 ·rintro⟨n,hn⟩
  rw[←h n]
  exact evKC_mono (Nat.le_succ n) hn
 ·intro hx
  exact⟨1,by rw[h 0];exact hx⟩
theorem DC_draw(al:List (Nat × List AV))(l:List KD)(E:KEnv)(S:St):DC lib nk (.draw al l) E S=regC (evKD (viaK nk (DF lib nk)) al l E S):=by
 apply DC_step
 intro n
 simp only[evKC]
 cases evKD (viaK nk (DF lib nk)) al l E S with
 |none=>rfl
 |some x=>rfl
theorem DC_ops(l:List KO)(E:KEnv)(S:St):DC lib nk (.ops l) E S=regC (evKs (viaK nk (DF lib nk)) l E S):=by
 apply DC_step
 intro n
 simp only[evKC]
 cases evKs (viaK nk (DF lib nk)) l E S with
 |none=>rfl
 |some x=>rfl
theorem thenC_some{x:Option (Out × KEnv × St)}{k:KEnv→St→Option (Out × KEnv × St)}{r:Out × KEnv × St}:thenC x k=some r↔(∃E S,x=some (.normal,E,S)∧k E S=some r)∨(r.1≠.normal∧x=some r):=by
 cases x with
 |none=>simp
 |some y=>
  obtain⟨o,E,S⟩:=y
  constructor
  ·intro h
   cases o with
   |normal=>exact .inl ⟨E,S,rfl,h⟩
   |ret=>cases h;exact .inr ⟨by simp,rfl⟩
   |exit id=>cases h;exact .inr ⟨by simp,rfl⟩
  ·rintro(⟨E1,S1,h1,h2⟩|⟨h1,h2⟩)
   ·cases h1;exact h2
   ·cases h2
    cases o with
    |normal=>exact absurd rfl h1
    |ret=>rfl
    |exit id=>rfl
theorem DC_seq(a b:KC)(E:KEnv)(S:St):DC lib nk (.seq a b) E S=thenC (DC lib nk a E S) fun E' S'=>DC lib nk b E' S':=by
 apply opt_ext
 intro r
 rw[DC_some,thenC_some]
 constructor
 ·rintro⟨n,h⟩
  cases n with
  |zero=>simp[evKC]at h
  |succ n=>
   simp only[evKC]at h
   split at h
   ·rename_i E1 S1 h1
    exact .inl ⟨E1,S1,(DC_some _).2 ⟨n,h1⟩,(DC_some _).2 ⟨n,h⟩⟩
   ·rename_i hne
    refine .inr ⟨fun e=>?_,(DC_some _).2 ⟨n,h⟩⟩
    obtain⟨o,E1,S1⟩:=r
    cases e
    exact hne _ _ h
 ·rintro(⟨E1,S1,h1,h2⟩|⟨h1,h2⟩)
  ·obtain⟨n,hn⟩:=(DC_some _).1 h1
   obtain⟨m,hm⟩:=(DC_some _).1 h2
   refine⟨max n m+1, ?_⟩
   simp only[evKC]
   rw[evKC_mono (Nat.le_max_left n m) hn]
   exact evKC_mono (Nat.le_max_right n m) hm
  ·obtain⟨n,hn⟩:=(DC_some _).1 h2
   refine⟨n+1, ?_⟩
   simp only[evKC,hn]
   obtain⟨o,E1,S1⟩:=r
   cases o with
   |normal=>exact absurd rfl h1
   |_=>rfl
theorem DC_loop(b:KC)(E:KEnv)(S:St):DC lib nk (.loop b) E S=thenC (DC lib nk b E S) fun E' S'=>DC lib nk (.loop b) E' S':=by
 apply opt_ext
 intro r
 rw[DC_some,thenC_some]
 constructor
 ·rintro⟨n,h⟩
  cases n with
  |zero=>simp[evKC]at h
  |succ n=>
   simp only[evKC]at h
   split at h
   ·rename_i E1 S1 h1
    exact .inl ⟨E1,S1,(DC_some _).2 ⟨n,h1⟩,(DC_some _).2 ⟨n,h⟩⟩
   ·rename_i hne
    refine .inr ⟨fun e=>?_,(DC_some _).2 ⟨n,h⟩⟩
    obtain⟨o,E1,S1⟩:=r
    cases e
    exact hne _ _ h
 ·rintro(⟨E1,S1,h1,h2⟩|⟨h1,h2⟩)
  ·obtain⟨n,hn⟩:=(DC_some _).1 h1
   obtain⟨m,hm⟩:=(DC_some _).1 h2
   refine⟨max n m+1, ?_⟩
   simp only[evKC]
   rw[evKC_mono (Nat.le_max_left n m) hn]
   exact evKC_mono (Nat.le_max_right n m) hm
  ·obtain⟨n,hn⟩:=(DC_some _).1 h2
   refine⟨n+1, ?_⟩
   simp only[evKC,hn]
   obtain⟨o,E1,S1⟩:=r
   cases o with
   |normal=>exact absurd rfl h1
   |_=>rfl
theorem DC_cond(x:KV)(a b:KC)(E:KEnv)(S:St):DC lib nk (.cond x a b) E S=condC (KE.ev E.sl x) (DC lib nk a E S) (DC lib nk b E S):=by
 apply opt_ext
 intro r
 rw[DC_some]
 constructor
 ·rintro⟨n,h⟩
  cases n with
  |zero=>simp[evKC]at h
  |succ n=>
   simp only[evKC]at h
   split at h
   ·rename_i hx
    rw[hx]
    exact(DC_some _).2 ⟨n,h⟩
   ·rename_i hx
    rw[hx]
    exact(DC_some _).2 ⟨n,h⟩
   ·cases h
 ·intro h
  unfold condC at h
  split at h
  ·rename_i hx
   obtain⟨n,hn⟩:=(DC_some _).1 h
   exact⟨n+1,by simp only[evKC,hx];exact hn⟩
  ·rename_i hx
   obtain⟨n,hn⟩:=(DC_some _).1 h
   exact⟨n+1,by simp only[evKC,hx];exact hn⟩
  ·cases h
theorem blockC_some{id:Nat}{x:Option (Out × KEnv × St)}{r:Out × KEnv × St}:blockC id x=some r↔(∃id' E S,x=some (.exit id',E,S)∧r=(if id'=id then(.normal,E,S)else(.exit id',E,S)))∨((∀id',r.1≠.exit id')∧x=some r):=by
 cases x with
 |none=>simp
 |some y=>
  obtain⟨o,E,S⟩:=y
  constructor
  ·intro h
   cases o with
   |normal=>cases h;exact .inr ⟨by simp,rfl⟩
   |ret=>cases h;exact .inr ⟨by simp,rfl⟩
   |exit id'=>
    refine .inl ⟨id',E,S,rfl, ?_⟩
    simp only[blockC_exit]at h
    split at h<;>rename_i he<;>cases h<;>simp[he]
  ·rintro(⟨id',E1,S1,h1,h2⟩|⟨h1,h2⟩)
   ·cases h1
    subst h2
    simp only[blockC_exit]
    split<;>rfl
   ·cases h2
    cases o with
    |normal=>rfl
    |ret=>rfl
    |exit id'=>exact absurd rfl (h1 id')
theorem DC_block(id:Nat)(b:KC)(E:KEnv)(S:St):DC lib nk (.block id b) E S=blockC id (DC lib nk b E S):=by
 apply opt_ext
 intro r
 rw[DC_some,blockC_some]
 constructor
 ·rintro⟨n,h⟩
  cases n with
  |zero=>simp[evKC]at h
  |succ n=>
   simp only[evKC]at h
   split at h
   ·rename_i id' E1 S1 h1
    refine .inl ⟨id',E1,S1,(DC_some _).2 ⟨n,h1⟩, ?_⟩
    split at h<;>rename_i he<;>simp[he]<;>simpa using h.symm
   ·rename_i hne
    refine .inr ⟨fun id' e=>?_,(DC_some _).2 ⟨n,h⟩⟩
    obtain⟨o,E1,S1⟩:=r
    cases e
    exact hne _ _ _ h
 ·rintro(⟨id',E1,S1,h1,rfl⟩|⟨h1,h2⟩)
  ·obtain⟨n,hn⟩:=(DC_some _).1 h1
   refine⟨n+1, ?_⟩
   simp only[evKC,hn]
   split<;>rfl
  ·obtain⟨n,hn⟩:=(DC_some _).1 h2
   refine⟨n+1, ?_⟩
   simp only[evKC,hn]
   obtain⟨o,E1,S1⟩:=r
   cases o with
   |exit id'=>exact absurd rfl (h1 id')
   |_=>rfl
theorem DC_up{c c':KC}{K K':KEnv}{S:St}(h:∀n,evKC (viaK nk (DF lib nk)) (n+1) c K S=evKC (viaK nk (DF lib nk)) n c' K' S):DC lib nk c K S=DC lib nk c' K' S:=by
 apply opt_ext
 intro r
 rw[DC_some,DC_some]
 constructor
 ·rintro⟨n,hn⟩
  cases n with
  |zero=>simp[evKC]at hn
  |succ n=>exact⟨n,by rw[←h n];exact hn⟩
 ·rintro⟨n,hn⟩
  exact⟨n+1,by rw[h n];exact hn⟩
theorem DC_keep(l:List Nat)(k:KC)(K:KEnv)(S:St):DC lib nk (.keep l k) K S=DC lib nk k (K.keep l) S:=DC_up fun n=>rfl
theorem DC_scope(b:KC)(K:KEnv)(S:St):DC lib nk (.scope b) K S=DC lib nk b K S:=DC_up fun n=>rfl
theorem DC_fuse(al:List (Nat × List AV))(l:List KD)(k:List KO)(K:KEnv)(S:St):DC lib nk (.fuse al l k) K S=DC lib nk (.seq (.draw al l) (.ops k)) K S:=DC_up fun n=>rfl
theorem DC_lab(K:KEnv)(S:St):DC lib nk .lab K S=some (.normal,K,S):=DC_step fun n=>rfl
theorem DC_bad(K:KEnv)(S:St):DC lib nk .bad K S=none:=DC_step fun n=>rfl
theorem DC_norm(l:List Nat)(k:KC)(K:KEnv)(S:St):DC lib nk (.norm l k) K S=DC lib nk k (K.norm l) S:=DC_up fun n=>rfl
end
end
section
variable{lib:FuncId→Option KF}{nk nk':NK}
theorem evKF_sub(hk:∀f,nk.keep f=false)(hk':∀f,nk'.keep f=false)(h1:∀f p,nk'.prim f=some p→nk.prim f=some p∨nk.prim f=none∧∀args S r,p args S=some r→DF lib nk f (args.map norm) S=some r)
 (h2:∀f,nk'.prim f=none→nk.prim f=none):∀n f args S r,evKF lib nk' n f args S=some r→DF lib nk f args S=some r:=by
 intro n
 induction n with
 |zero=>intro f args S r h;simp[evKF]at h
 |succ n ih=>
  intro f args S r h
  rw[evKF_succ]at h
  rw[DF_eq]
  refine callOfK_mono (fun c K S r hc=>?_) _ _ _ _ h
  have T:Tends (viaK nk' (evKF lib nk' n)) (fun _=>viaK nk (DF lib nk)):=by
   intro f args S r h
   refine⟨0,fun _ _=>?_⟩
   unfold viaK at h⊢
   cases hp:nk'.prim f with
   |some p=>
    simp only[hp]at h
    rcases h1 f p hp with h3|⟨h3,h4⟩
    ·simp only[h3];exact h
    ·simp only[h3,hk]
     exact h4 args S r h
   |none=>
    simp only[hp,hk']at h
    simp only[h2 f hp,hk]
    exact ih f _ S r h
  obtain⟨m,hm'⟩:=cont_code T n hc
  exact(DC_some _).2 ⟨n,hm' m n (Nat.le_refl _) (Nat.le_refl _)⟩
theorem DF_sub(hk:∀f,nk.keep f=false)(hk':∀f,nk'.keep f=false)(h1:∀f p,nk'.prim f=some p→nk.prim f=some p∨nk.prim f=none∧∀args S r,p args S=some r→DF lib nk f (args.map norm) S=some r)
 (h2:∀f,nk'.prim f=none→nk.prim f=none) {f:FuncId} {args:List AV} {S:St} {r:AV × St} (h:DF lib nk' f args S=some r):DF lib nk f args S=some r:=by
 obtain⟨n,hn⟩:=(DF_some r).1 h
 exact evKF_sub hk hk' h1 h2 n f args S r hn
end
end Go.Proofs.YthiocmkadpdekaaGreatDoor.am
