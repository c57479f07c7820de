/- Parts. No condition. -/
import Derived.Test.YthiocmkadpdekaaGreatDoorRows
import Derived.WideShapes
import Derived.RowKitTokens
import Derived.Test.YthiocmkadpdekaaGreatDoorTie
import Derived.Test.YthiocmkadpdekaaGreatDoorCards
import Derived.SevenTiedAt
import Derived.Test.YthiocmkadpdekaaGreatDoorSK
set_option linter.all false
namespace Go.Proofs.YthiocmkadpdekaaGreatDoor.am
open Go
def nkX(l:List (FuncId × Prim)):NK:=⟨fun _=>false,fun f=>match l.lookup f with|some p=>some p|none=>nk2.prim f⟩
theorem DF_nkX{l:List (FuncId × Prim)}(hl:∀q∈l,prims2.lookup q.1=none∧nk.prim q.1=none∧∀args S r,q.2 args S=some r→DF lib nk q.1 (args.map norm) S=some r){f:FuncId}{args:List AV}{S:St}{r:AV × St}(h:DF lib (nkX l) f args S=some r):DF lib nk f args S=some r:=by
 refine DF_sub (fun _=>rfl) (fun _=>rfl) (fun f p hp=>?_) (fun f hp=>?_) h
 ·unfold nkX at hp
  simp only at hp
  split at hp
  ·rename_i p' hl'
   cases hp
   exact .inr (hl _ (lookup_of hl')).2
  ·unfold nk2 at hp
   simp only at hp
   split at hp
   ·rename_i p' hl'
    cases hp
    exact .inr (prims2_ok _ (lookup_of hl'))
   ·exact .inl hp
 ·unfold nkX nk2 at hp
  simp only at hp
  split at hp
  ·cases hp
  ·split at hp
   ·cases hp
   ·exact hp
theorem set_sameB{S:St}{i:Nat}{b:Box}(h:S[i]? =some b):S.set i b=S:=by
 apply List.ext_getElem?
 intro k
 by_cases hk:k=i
 ·subst hk
  have hlt:k<S.length:=by
   rcases Nat.lt_or_ge k S.length with h1|h1
   ·exact h1
   ·rw[List.getElem?_eq_none h1]at h;cases h
  rw[List.getElem?_set_self hlt,h]
 ·rw[List.getElem?_set_ne (fun e=>hk e.symm)]
def smP(args:List AV)(S:St):Option (AV × St):=
 match args with
 |[.sl .exact 1 [[.aref 23 0 32 32 1]]]=>if S.length=26 then(match(S[23]? :Option Box)with
  |some (Box.mem cs [] q)=>match decB (cs.map fun v=>[v])with
   |some b=>if b=seedB then some (.agg (encB sumB0),S)else none
   |none=>none
  |_=>none)else none
 |_=>none
theorem smP_ok(args:List AV)(S:St)(r:AV × St)(h:smP args S=some r):DF lib nk 77 (args.map norm) S=some r:=by
 unfold smP at h
 split at h
 ·split at h
  ·rename_i hn
   split at h
   ·rename_i cs q hS
    split at h
    ·rename_i b hb
     split at h
     ·rename_i he
      have hc:=cells_of hb
      rw[he]at hc
      subst hc
      cases h
      obtain⟨f,hf⟩:=box_len hn
      have e:S=((List.range 26).map f).set 23 (.mem (encB seedB) [] q):=by rw[←hf];exact(set_sameB hS).symm
      have:=DF_run2 1000 (sum_26 f q)
      rw[←e]at this
      exact this
     ·cases h
    ·cases h
   ·cases h
  ·cases h
 ·cases h
def N5.same(x y:N5):Bool:=Nat.beq x.a y.a&&(Nat.beq x.b y.b&&(Nat.beq x.c y.c&&(Nat.beq x.d y.d&&Nat.beq x.e y.e)))
theorem N5.same_eq{x y:N5}(h:x.same y=true):x=y:=by
 simp only[N5.same,Bool.and_eq_true,Nat.beq_eq]at h
 obtain⟨h1,h2,h3,h4,h5⟩:=h
 cases x;cases y
 simp only at h1 h2 h3 h4 h5
 subst h1 h2 h3 h4 h5
 rfl
def N20.same(p q:N20):Bool:=p.x.same q.x&&(p.y.same q.y&&(p.z.same q.z&&p.t.same q.t))
theorem N20.same_eq{p q:N20}(h:p.same q=true):p=q:=by
 simp only[N20.same,Bool.and_eq_true]at h
 obtain⟨h1,h2,h3,h4⟩:=h
 cases p;cases q
 simp only at h1 h2 h3 h4
 rw[N5.same_eq h1,N5.same_eq h2,N5.same_eq h3,N5.same_eq h4]
def pmP(args:List AV)(S:St):Option (AV × St):=
 match args with
 |[u,.agg l]=>if S.length=25 then(match decP u,decB (l.map fun v=>[v])with
  |some p,some b=>if b=numB0∧p.same baseN=true then some (pubN.enc,S)else none
  |_,_=>none)else none
 |_=>none
theorem pmP_ok(args:List AV)(S:St)(r:AV × St)(h:pmP args S=some r):DF lib nk 61 (args.map norm) S=some r:=by
 unfold pmP at h
 split at h
 ·split at h
  ·rename_i hn
   split at h
   ·rename_i p b hp hb
    split at h
    ·rename_i he
     have hc:=cells_of hb
     rw[he.1]at hc
     subst hc
     obtain⟨y,hy,rfl⟩:=decP_some hp
     have hq:=N20.same_eq he.2
     rw[hq]at hy
     have hy2:y.enc=baseN.enc:=by rw[←pt_enc,hy]
     cases h
     obtain⟨f,hf⟩:=box_len hn
     have:=DF_run2 1000 (mul_25 f)
     rw[←hf,←hy2]at this
     simp only[List.map_cons,List.map_nil,pt_no,norm_bytes]
     exact this
    ·cases h
   ·cases h
  ·cases h
 ·cases h
def prims3:List (FuncId × Prim):=[(77,smP),(61,pmP)]
theorem prims3_ok:∀q∈prims3,prims2.lookup q.1=none∧nk.prim q.1=none∧∀args S r,q.2 args S=some r→DF lib nk q.1 (args.map norm) S=some r:=by
 intro q hq
 simp only[prims3,List.mem_cons,List.not_mem_nil,or_false]at hq
 rcases hq with rfl|rfl
 ·exact⟨rfl,rfl,smP_ok⟩
 ·exact⟨rfl,rfl,pmP_ok⟩
theorem public_21(b:Nat→Box):evKF lib (nkX prims3) 1000 37 [.agg (encB seedB)] ((List.range 21).map b)=some (.agg (encB key0B),(List.range 21).map b):=(evKFs_eq _ _ _ _ _ _).symm.trans (by kernel_rfl)
theorem known_5_0(b:Nat→Box):evKF lib nk2 1000 92 [.agg (encB key0B)] ((List.range 5).map b)=some (.bool true,(List.range 5).map b):=(evKFs_eq _ _ _ _ _ _).symm.trans (by kernel_rfl)
theorem known_5_1(b:Nat→Box):evKF lib nk2 1000 92 [.agg (encB key1B)] ((List.range 5).map b)=some (.bool true,(List.range 5).map b):=(evKFs_eq _ _ _ _ _ _).symm.trans (by kernel_rfl)
theorem known_5_2(b:Nat→Box):evKF lib nk2 1000 92 [.agg (encB key2B)] ((List.range 5).map b)=some (.bool true,(List.range 5).map b):=(evKFs_eq _ _ _ _ _ _).symm.trans (by kernel_rfl)
theorem known_8_0(b:Nat→Box):evKF lib nk2 1000 92 [.agg (encB key0B)] ((List.range 8).map b)=some (.bool true,(List.range 8).map b):=(evKFs_eq _ _ _ _ _ _).symm.trans (by kernel_rfl)
theorem known_8_1(b:Nat→Box):evKF lib nk2 1000 92 [.agg (encB key1B)] ((List.range 8).map b)=some (.bool true,(List.range 8).map b):=(evKFs_eq _ _ _ _ _ _).symm.trans (by kernel_rfl)
theorem known_8_2(b:Nat→Box):evKF lib nk2 1000 92 [.agg (encB key2B)] ((List.range 8).map b)=some (.bool true,(List.range 8).map b):=(evKFs_eq _ _ _ _ _ _).symm.trans (by kernel_rfl)
theorem known_10_0(b:Nat→Box):evKF lib nk2 1000 92 [.agg (encB key0B)] ((List.range 10).map b)=some (.bool true,(List.range 10).map b):=(evKFs_eq _ _ _ _ _ _).symm.trans (by kernel_rfl)
theorem known_10_1(b:Nat→Box):evKF lib nk2 1000 92 [.agg (encB key1B)] ((List.range 10).map b)=some (.bool true,(List.range 10).map b):=(evKFs_eq _ _ _ _ _ _).symm.trans (by kernel_rfl)
theorem known_10_2(b:Nat→Box):evKF lib nk2 1000 92 [.agg (encB key2B)] ((List.range 10).map b)=some (.bool true,(List.range 10).map b):=(evKFs_eq _ _ _ _ _ _).symm.trans (by kernel_rfl)
def knP(args:List AV)(S:St):Option (AV × St):=
 match args with
 |[.agg l]=>if S.length=5∨S.length=8∨S.length=10 then(match decB (l.map fun v=>[v])with
  |some b=>if b=key0B∨b=key1B∨b=key2B then some (.bool true,S)else none
  |none=>none)else none
 |_=>none
theorem knP_ok(args:List AV)(S:St)(r:AV × St)(h:knP args S=some r):DF lib nk 92 (args.map norm) S=some r:=by
 unfold knP at h
 split at h
 ·split at h
  ·rename_i hn
   split at h
   ·rename_i b hb
    split at h
    ·rename_i he
     have hc:=cells_of hb
     subst hc
     cases h
     simp only[List.map_cons,List.map_nil,norm_bytes]
     rcases hn with hn|hn|hn<;>obtain⟨f,hf⟩:=box_len hn<;>rcases he with rfl|rfl|rfl<;>rw[hf]
     ·exact DF_run2 1000 (known_5_0 f)
     ·exact DF_run2 1000 (known_5_1 f)
     ·exact DF_run2 1000 (known_5_2 f)
     ·exact DF_run2 1000 (known_8_0 f)
     ·exact DF_run2 1000 (known_8_1 f)
     ·exact DF_run2 1000 (known_8_2 f)
     ·exact DF_run2 1000 (known_10_0 f)
     ·exact DF_run2 1000 (known_10_1 f)
     ·exact DF_run2 1000 (known_10_2 f)
    ·cases h
   ·cases h
  ·cases h
 ·cases h
def pbP(args:List AV)(S:St):Option (AV × St):=
 match args with
 |[.agg l]=>if S.length=21 then(match decB (l.map fun v=>[v])with
  |some b=>if b=seedB then some (.agg (encB key0B),S)else none
  |none=>none)else none
 |_=>none
theorem pbP_ok(args:List AV)(S:St)(r:AV × St)(h:pbP args S=some r):DF lib nk 37 (args.map norm) S=some r:=by
 unfold pbP at h
 split at h
 ·split at h
  ·rename_i hn
   split at h
   ·rename_i b hb
    split at h
    ·rename_i he
     have hc:=cells_of hb
     rw[he]at hc
     subst hc
     cases h
     simp only[List.map_cons,List.map_nil,norm_bytes]
     obtain⟨f,hf⟩:=box_len hn
     have:=DF_nkX prims3_ok ((DF_some _).2 ⟨1000,public_21 f⟩)
     rw[←hf]at this
     exact this
    ·cases h
   ·cases h
  ·cases h
 ·cases h
def prims4:List (FuncId × Prim):=[(92,knP),(37,pbP)]
theorem prims4_ok:∀q∈prims4,prims2.lookup q.1=none∧nk.prim q.1=none∧∀args S r,q.2 args S=some r→DF lib nk q.1 (args.map norm) S=some r:=by
 intro q hq
 simp only[prims4,List.mem_cons,List.not_mem_nil,or_false]at hq
 rcases hq with rfl|rfl
 ·exact⟨rfl,rfl,knP_ok⟩
 ·exact⟨rfl,rfl,pbP_ok⟩
theorem awake_run:evKF lib (nkX prims4) 2000 6 [] []=some (.bool true,[]):=(evKFs_eq _ _ _ _ _ _).symm.trans (by kernel_rfl)
theorem F_awake:DF lib nk 6 [] []=some (.bool true,[]):=DF_nkX prims4_ok ((DF_some _).2 ⟨2000,awake_run⟩)
theorem tk2R{v:AV}{es:List (List AV)}(h:ResG 1 v es)(tips:List (Option Nat)):∃q t,takeRet tips (.tup [v,.nili])=(.tup [q,.nili],tips++t)∧OutG 1 q (tips++t) es:=by
 rcases h with⟨e,rfl⟩|rfl|rfl
 ·exact⟨.nils,[],by simp[takeRet,takeResL,takeRes],.inl ⟨e,rfl⟩⟩
 ·exact⟨.sl .exact 1 es,[],by simp[takeRet,takeResL,takeRes],.inr (.inl rfl)⟩
 ·exact⟨.sl (.fr tips.length) 1 es,[some es.length],rfl,.inr (.inr ⟨tips.length,rfl,by simp⟩)⟩
theorem tk3G{v:AV}{es:List (List AV)}(h:ResG 1 v es)(tips:List (Option Nat))(a b:Int):∃q t,takeRet tips (.tup [v,.int .i64 a,.int .i64 b])=(.tup [q,.int .i64 a,.int .i64 b],tips++t)∧OutG 1 q (tips++t) es:=by
 rcases h with⟨e,rfl⟩|rfl|rfl
 ·exact⟨.nils,[],by simp[takeRet,takeResL,takeRes],.inl ⟨e,rfl⟩⟩
 ·exact⟨.sl .exact 1 es,[],by simp[takeRet,takeResL,takeRes],.inr (.inl rfl)⟩
 ·exact⟨.sl (.fr tips.length) 1 es,[some es.length],rfl,.inr (.inr ⟨tips.length,rfl,by simp⟩)⟩
theorem F_BundleReads(b:Str)(hl:b.length<9223372036854775808):DF lib nk 4 [encBs b] []=some (.bool true,[]):=by
 have aw:=F_awake
 rw[run_dioptrelaw23_BundleReads,DC_of c_dioptrelaw23_BundleReads.eq_1]
 by_cases h6:600<b.length
 ·have h6':(600:Int)<(b.length:Int):=by omega
  simp[h6,h6',aw]
 have h6':¬(600:Int)<(b.length:Int):=by omega
 obtain⟨r,hr,hr1⟩:=F_bundle_Read b (by omega) []
 obtain⟨r',hr',hr1'⟩:=F_r23_Read b (by omega) []
 have QO:(bQ b).2.Ok:=(bL_ok (bN b) (bR b) [] (bR_ok b).1).1
 have hinv:=bQ_inv b
 generalize bQ b=Q at*
 have ln0:∀T,lockOne T (.nils:AV)=T:=fun _=>rfl
 have un0:∀T T',unlockOne T T' (.nils:AV)=T':=fun _ _=>rfl
 have gn:∀T,giveArg T (.nils:AV)=some .nils:=fun _=>rfl
 have nn:norm .nils=encL []:=rfl
 have ee:evBinE .eql (.ifc kts_0) true .nili .nili=some (.bool true):=rfl
 cases he:Q.2.endE with
 |some x=>
  rw[he]at hr1 hr1'
  simp only at hr1 hr1'
  subst hr1 hr1'
  have hx:=endE_c QO he
  have hx':¬(x.1:Int)=0:=by omega
  have ht:=F_Told_at x.1 x.2 hx []
  have hs:=F_r23_Same [] [] (by simp) []
  obtain⟨v,hv,_,hv2⟩:=F_bundle_Write [] (by simp) []
  have hv3:v=.tup [.sl .fresh 1 (bcl (numB 0)),.nili]:=hv2 (by simp)
  subst hv3
  have tkw:∀t,takeRet t (.tup [.sl .fresh 1 (bcl (numB 0)),.nili])=(.tup [.sl (.fr t.length) 1 (bcl (numB 0)),.nili],t++[some (bcl (numB 0)).length]):=fun _=>rfl
  generalize bcl (numB 0)=q0 at*
  have tk:∀t,takeRet t (.tup [.nils,errAt x.1 x.2])=(.tup [.nils,errAt x.1 x.2],t):=fun _=>rfl
  have tk3:∀t n m,takeRet t (.tup [.nils,.int .i64 n,.int .i64 m])=(.tup [.nils,.int .i64 n,.int .i64 m],t):=fun _ _ _=>rfl
  obtain⟨e1,e2,e3,e4,e5⟩:=eA x.1 x.2
  simp[h6,h6',aw,evUn,hr,tk,hr',tk3,e1,e2,e3,e4,ht,gn,ln0,un0,nn,hs,hv,tkw,hx,hx',r_dioptrelaw23_BundleReads_0]
 |none=>
  rw[he]at hr1 hr1'
  obtain⟨w,w1,rfl⟩:=hr1
  obtain⟨w',es,w1',w2',rfl⟩:=hr1'
  obtain⟨i1,i2,i3⟩:=hinv he
  obtain⟨v,hv,_,hv2⟩:=F_bundle_Write Q.1 (by omega) []
  have hv3:=hv2 i1
  rw[i2]at hv3
  simp only at hv3
  subst hv3
  obtain⟨p0,t0,a1,a2⟩:=tk2R w1 []
  obtain⟨p1,t1,b1,b2⟩:=tk3G w1' ([]++t0) 0 (-1)
  obtain⟨p2,t2,c1,c2⟩:=tk2R (v:=.sl .fresh 1 (bcl b)) (es:=bcl b) (.inr (.inr rfl)) ([]++t0++t1)
  have ht:=F_Told_0 (-1) []
  have hs:=F_r23_SameE Q.1 Q.1 es (w2'.sm i3) (by omega) []
  have hb:=F_r01_Bytes b b (by omega) []
  have g0:=OutG.give a2 []
  have n0:norm (strip p0)=encL Q.1:=(OutG.norm a2).trans (rcl_enc Q.1 i3)
  have l0:=OutG.lock a2
  have u0:=OutG.unlock a2
  have g1:=OutG.give b2 []
  have n1:norm (strip p1)=encSl 1 es:=OutG.norm b2
  have l1:=OutG.lock b2
  have u1':=OutG.unlock b2
  have g2:=OutG.give c2 []
  have n2:norm (strip p2)=encBs b:=OutG.norm c2
  have l2:=OutG.lock c2
  have u2:=OutG.unlock c2
  simp at a1 b1 c1 hb hs
  simp[h6,h6',aw,evUn,hr,a1,hr',b1,ht,g0,n0,l0,u0,g1,n1,l1,u1',hs,hv,c1,ee,g2,n2,l2,u2,hb,r_dioptrelaw23_BundleReads_0]
end Go.Proofs.YthiocmkadpdekaaGreatDoor.am
namespace Go.Proofs.YthiocmkadpdekaaGreatDoor.bundleReads
open Go Go.RowKit Go.ChangeShapes Go.Proofs.YthiocmkadpdekaaGreatDoor.am
theorem own:ownKnob Tryz.prog.godebug=none:=by kernel_rfl
theorem laidOut:laidOutB Tryz.prog=true:=by kernel_rfl
theorem mixed:Tryz.prog.follows .mixedOrders=true:=by kernel_rfl
set_option maxRecDepth 100000 in
theorem contract(H:Type)(enc:TypeId × Value→H)(W:World)(base:Nat)(args:Array Value)(ds gs:List (DataW H))(before:List MemPlace)
 (hval:∀(j:Nat) t v,Tryz.f4.params[j]? =some t→args[j]? =some v→Value.okWide Tryz.prog W .any base t v)
 (hW:DataW.Whole enc Tryz.prog Tryz.f4.params.toList Rows.bundleReadsSpec.vars false W args.toList ds gs before) (hX:laidMetH Tryz.prog laidB W):
 Calls Tryz.prog 4 args W fun e W'=>∃v,e=.returned v∧Rows.bundleReadsSpec.post enc Tryz.prog Tryz.f4 false true false false W args v W':=by
 have hW':=hW
 obtain⟨p,q,hA0,hV,rfl,hfz,hnd⟩:=hW
 have hA:DataW.TrodAll enc Tryz.prog W 0 (fun _=>true) true Tryz.f4.params.toList args.toList ds p:=hA0
 rw[Tryz.params4]at hA hval
 obtain⟨v0,d0,rfl,hds,n0,h0⟩:=trodAll_one hA
 obtain⟨a,ha,ra⟩:=rd_bs n0 _ _ h0
 obtain⟨a0,len,cap,rfl⟩:=Go.WideShapes.okWide_slice Tryz.underlying25 (hval 0 25 v0 (by simp) (by simp))
 have ra:RVL W [encBs a] [.slice a0 len cap]:=by simpa[Value.cells]using ra
 obtain⟨x0,hx0,hr0,_⟩:=ra.2 0 _ rfl
 cases hx0
 subst hds
 refine(law_calls (nk:=nk) mixed named nk_ok lib_ok (F_BundleReads a ha) (W:=W) (glb_B hX) (args:= #[.slice a0 len cap]) (by simp) rfl (fun j x hj=>?_)).mono fun e W' h=>?_
 ·match j,hj with
  |0,hj=>simp at hj;subst hj;exact⟨_,rfl,hr0⟩
  |j+1,hj=>simp at hj
 ·obtain⟨rfl,hbl⟩:=h
  refine⟨_,rfl,law_post (tb:=4) laidOut (by rw[Tryz.params4];intro t ht;simp at ht;subst ht;exact⟨by kernel_rfl,of_decide_eq_true (by kernel_rfl)⟩) rfl (by kernel_rfl) Tryz.underlying4 (fun e=>?_) hW' hbl⟩
  subst e
  rfl
set_option maxRecDepth 100000 in
theorem lifted(os:Os)(started:os.Started)(H:Type)(enc:TypeId × Value→H):
 ReturnsInHanded {} Tryz.checked os 4 .any (fun w args=>(Rows.bundleReadsSpec.pre enc Tryz.prog Tryz.f4 [] false w args∧laidMetH Tryz.prog laidB w)∧sizedMet enc Tryz.prog Tryz.f4 (OpenSpec.ofChange Rows.bundleReadsSpec) false w args)
  (Rows.bundleReadsSpec.post enc Tryz.prog Tryz.f4 false true false false):=by
 refine returnsInHanded_of_change_and (C:=Tryz.checked) (X:=fun w _=>laidMetH Tryz.prog laidB w) (fun _ _ _ hh h=>h.of_heap hh) own started (by kernel_rfl) Tryz.func4
  (ChangeSpec.witness_at (enc:=enc) (C:=Tryz.checked) (os:=os) (X:=fun w _=>laidMetH Tryz.prog laidB w) false (laidWorld os)
   #[.slice Option.none 0 0] 8 rfl (by kernel_rfl) (by kernel_rfl) (by kernel_rfl) (by kernel_rfl) (by kernel_rfl) (laidWorld_B os _)) ?_
 intro W base args ds gs before hval hW _ _ hL _
 exact contract H enc W base args ds gs before hval hW hL
theorem bundleReads_row:Rows.BundleReadsSaid:=
 OpenClaim.holds_of_wide 4 Tryz.f4 rfl rfl rfl rfl rfl rfl rfl ⟨rfl,rfl,rfl,rfl,rfl⟩ rfl rfl rfl rfl rfl (by kernel_rfl) Tryz.func4 (by kernel_rfl)
  (of_decide_eq_true (by kernel_rfl)) (by unfold Func.isWrapper;first|(rw[if_pos (by decide+kernel)];kernel_rfl)|(rw[if_neg (by decide+kernel)];exact⟨rfl,rfl⟩))
  (fun os started H enc _=>lifted os started H enc)
theorem bundleReads_holds:Rows.BundleReadsCardSaid:=
 Claim7.holds_tied_plain_at .later [] [.handle] true (true,"6e4cf017b6ced118f56ee7d567225f4d6c594d96cd0406de9c78235a2b305856") true
  bundleReads_row (fun _ h=>by cases h) (by kernel_rfl) (fun _ h=>by cases h) bundleReads_row_tie rfl ⟨rfl,rfl⟩ (by kernel_rfl) rfl
  (fun f fn hf hfn=>by
   obtain rfl:f=4:=Option.some.inj ((show Tryz.prog.funcNamed "dioptre/dioptrelaw23.BundleReads" =some 4 by kernel_rfl).symm.trans hf)|>.symm
   obtain rfl:fn=Tryz.f4:=(Option.some.inj (Tryz.func4.symm.trans hfn)).symm
   exact⟨by kernel_rfl,fun j t ht=>by
    rw[Tryz.params4]at ht
    have h3:t=25:=by
     rcases j with _|j
     ·simpa using ht.symm
     ·simp at ht
    subst h3
    exact(show Tryz.prog.wantsStandIn 25=false by kernel_rfl)⟩)
  (by kernel_rfl)
end Go.Proofs.YthiocmkadpdekaaGreatDoor.bundleReads
