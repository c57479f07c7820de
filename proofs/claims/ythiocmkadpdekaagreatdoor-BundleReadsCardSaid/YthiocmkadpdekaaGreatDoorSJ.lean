/- Parts. No condition. -/
import Derived.KernelRfl
import Derived.Test.YthiocmkadpdekaaGreatDoorSI
set_option linter.all false
namespace Go.Proofs.YthiocmkadpdekaaGreatDoor.am
open Go
def nst{α:Type}(n:Nat)(k:Nat→α):α:=Nat.rec (motive:=fun _=>α) (k 0) (fun m _=>k (Nat.succ m)) n
theorem nst_eq{α:Type}(n:Nat)(k:Nat→α):nst n k=k n:=by cases n<;>rfl
def N5.now{α:Type}(x:N5)(k:N5→α):α:=nst x.a fun a=>nst x.b fun b=>nst x.c fun c=>nst x.d fun d=>nst x.e fun e=>k ⟨a,b,c,d,e⟩
theorem N5.now_eq{α:Type}(x:N5)(k:N5→α):x.now k=k x:=by simp only[N5.now,nst_eq]
def N5.enc(x:N5):AV:=.agg [.int .u64 (.ofNat x.a),.int .u64 (.ofNat x.b),.int .u64 (.ofNat x.c),.int .u64 (.ofNat x.d),.int .u64 (.ofNat x.e)]
theorem fl_enc(x:Fl):x.n.enc=x.enc:=rfl
def N5.ok(x:N5):Bool:=Nat.ble x.a 18446744073709551615&&(Nat.ble x.b 18446744073709551615&&(Nat.ble x.c 18446744073709551615&&(Nat.ble x.d 18446744073709551615&&Nat.ble x.e 18446744073709551615)))
theorem N5.ok_fl{x:N5}(h:x.ok=true):∃y:Fl,y.n=x:=by
 simp only[N5.ok,Bool.and_eq_true,Nat.ble_eq]at h
 obtain⟨ha,hb,hc,hd,he⟩:=h
 refine⟨⟨UInt64.ofNat x.a,UInt64.ofNat x.b,UInt64.ofNat x.c,UInt64.ofNat x.d,UInt64.ofNat x.e⟩, ?_⟩
 unfold Fl.n
 simp only[UInt64.toNat_ofNat']
 rw[Nat.mod_eq_of_lt (by omega),Nat.mod_eq_of_lt (by omega),Nat.mod_eq_of_lt (by omega),Nat.mod_eq_of_lt (by omega),Nat.mod_eq_of_lt (by omega)]
def decL:List AV→Option N5
 |[.int .u64 (.ofNat a),.int .u64 (.ofNat b),.int .u64 (.ofNat c),.int .u64 (.ofNat d),.int .u64 (.ofNat e)]=>if N5.ok ⟨a,b,c,d,e⟩=true then some ⟨a,b,c,d,e⟩else none
 |_=>none
def decN:AV→Option N5
 |.agg l=>decL l
 |_=>none
theorem decL_some{l:List AV}{x:N5}(h:decL l=some x):∃y:Fl,y.n=x∧l=y.cs:=by
 unfold decL at h
 split at h
 ·rename_i a b c d e
  split at h
  ·rename_i ho
   obtain⟨y,hy⟩:=N5.ok_fl ho
   cases h
   refine⟨y,hy, ?_⟩
   have:=congrArg N5.enc hy
   rw[fl_enc]at this
   simp only[Fl.enc,N5.enc,AV.agg.injEq]at this
   exact this.symm
  ·cases h
 ·cases h
theorem decN_some{v:AV}{x:N5}(h:decN v=some x):∃y:Fl,y.n=x∧v=y.enc:=by
 unfold decN at h
 split at h
 ·obtain⟨y,h1,rfl⟩:=decL_some h
  exact⟨y,h1,rfl⟩
 ·cases h
def two(f:N5→N5→N5)(args:List AV)(S:St):Option (AV × St):=
 match args with
 |[u,v]=>match decN u,decN v with
  |some x,some y=>(f x y).now fun z=>some (z.enc,S)
  |_,_=>none
 |_=>none
def one(f:N5→N5)(args:List AV)(S:St):Option (AV × St):=
 match args with
 |[u]=>match decN u with
  |some x=>(f x).now fun z=>some (z.enc,S)
  |none=>none
 |_=>none
theorem two_ok{f:N5→N5→N5}{g:FuncId}{F:Fl→Fl→Fl}(hF:∀x y S,DF lib nk g [x.enc,y.enc] S=some ((F x y).enc,S))(hn:∀x y,(F x y).n=f x.n y.n)(args:List AV)(S:St)(r:AV × St)(h:two f args S=some r):DF lib nk g (args.map norm) S=some r:=by
 unfold two at h
 split at h
 ·rename_i u v
  split at h
  ·rename_i x y hx hy
   obtain⟨X,rfl,rfl⟩:=decN_some hx
   obtain⟨Y,rfl,rfl⟩:=decN_some hy
   rw[N5.now_eq,←hn,fl_enc]at h
   simp only[List.map_cons,List.map_nil,fl_no,hF]
   exact h
  ·cases h
 ·cases h
theorem one_ok{f:N5→N5}{g:FuncId}{F:Fl→Fl}(hF:∀x S,DF lib nk g [x.enc] S=some ((F x).enc,S))(hn:∀x,(F x).n=f x.n)(args:List AV)(S:St)(r:AV × St)(h:one f args S=some r):DF lib nk g (args.map norm) S=some r:=by
 unfold one at h
 split at h
 ·rename_i u
  split at h
  ·rename_i x hx
   obtain⟨X,rfl,rfl⟩:=decN_some hx
   rw[N5.now_eq,←hn,fl_enc]at h
   simp only[List.map_cons,List.map_nil,fl_no,hF]
   exact h
  ·cases h
 ·cases h
def N5.pw(bit:Nat→Bool)(x:N5):Nat→N5→N5
 |0,o=>o
 |n+1,o=>(o.mul o).now fun s=>if bit n=true then(s.mul x).now fun r=>N5.pw bit x n r else N5.pw bit x n s
theorem pw_n(bit:Nat→Bool)(x:Fl):∀n o,(Fl.pw bit x n o).n=N5.pw bit x.n n o.n:=by
 intro n
 induction n with
 |zero=>intro o;rfl
 |succ n ih=>
  intro o
  rw[Fl.pw,N5.pw,N5.now_eq]
  split
  ·rw[N5.now_eq,ih,mul_n,mul_n]
  ·rw[ih,mul_n]
def N5.unit:N5:=⟨1,0,0,0,0⟩
def N5.inv(x:N5):N5:=N5.pw bInv x 256 N5.unit
def N5.rt(x:N5):N5:=N5.pw bRoot x 256 N5.unit
theorem inv_n(x:Fl):x.inv.n=x.n.inv:=pw_n bInv x 256 Fl.one
theorem rt_n(x:Fl):x.rt.n=x.n.rt:=pw_n bRoot x 256 Fl.one
structure N20 where
 x:N5
 y:N5
 z:N5
 t:N5
def Pt.n(p:Pt):N20:=⟨p.x.n,p.y.n,p.z.n,p.t.n⟩
def N20.dbl(p:N20):N20:=
 (p.x.mul p.x).now fun a=>(p.y.mul p.y).now fun b=>(p.z.mul p.z).now fun c=>(a.add b).now fun h=>(p.x.add p.y).now fun s=>(h.sub (s.mul s)).now fun e=>(a.sub b).now fun g=>((c.add c).add g).now fun f=>
  ⟨e.mul f,g.mul h,f.mul g,e.mul h⟩
theorem dbl_n(p:Pt):p.dbl.n=p.n.dbl:=by
 unfold Pt.dbl Pt.dblG N20.dbl Pt.n
 simp only[N5.now_eq,mul_n,add_n,sub_n]
def N20.add(D:N5)(p o:N20):N20:=
 ((p.y.sub p.x).mul (o.y.sub o.x)).now fun a=>((p.y.add p.x).mul (o.y.add o.x)).now fun b=>((p.t.mul D).mul o.t).now fun c=>((p.z.add p.z).mul o.z).now fun d=>(b.sub a).now fun e=>(d.sub c).now fun f=>(d.add c).now fun g=>(b.add a).now fun h=>
   ⟨e.mul f,g.mul h,f.mul g,e.mul h⟩
theorem padd_n(p o:Pt):(p.add o).n=N20.add Fl.d2.n p.n o.n:=by
 unfold Pt.add Pt.addG N20.add Pt.n
 simp only[N5.now_eq,mul_n,add_n,sub_n]
def N20.enc(p:N20):AV:=.agg ([.int .u64 (.ofNat p.x.a),.int .u64 (.ofNat p.x.b),.int .u64 (.ofNat p.x.c),.int .u64 (.ofNat p.x.d),.int .u64 (.ofNat p.x.e),.int .u64 (.ofNat p.y.a),.int .u64 (.ofNat p.y.b),.int .u64 (.ofNat p.y.c),.int .u64 (.ofNat p.y.d),.int .u64 (.ofNat p.y.e),
 .int .u64 (.ofNat p.z.a),.int .u64 (.ofNat p.z.b),.int .u64 (.ofNat p.z.c),.int .u64 (.ofNat p.z.d),.int .u64 (.ofNat p.z.e),.int .u64 (.ofNat p.t.a),.int .u64 (.ofNat p.t.b),.int .u64 (.ofNat p.t.c),.int .u64 (.ofNat p.t.d),.int .u64 (.ofNat p.t.e)])
theorem pt_enc(p:Pt):p.n.enc=p.enc:=rfl
def N20.now{α:Type}(p:N20)(k:N20→α):α:=p.x.now fun x=>p.y.now fun y=>p.z.now fun z=>p.t.now fun t=>k ⟨x,y,z,t⟩
theorem N20.now_eq{α:Type}(p:N20)(k:N20→α):p.now k=k p:=by simp only[N20.now,N5.now_eq]
def decP:AV→Option N20
 |.agg [a0,a1,a2,a3,a4,b0,b1,b2,b3,b4,c0,c1,c2,c3,c4,d0,d1,d2,d3,d4]=>match decL [a0,a1,a2,a3,a4],decL [b0,b1,b2,b3,b4],decL [c0,c1,c2,c3,c4],decL [d0,d1,d2,d3,d4]with
  |some x,some y,some z,some t=>some ⟨x,y,z,t⟩
  |_,_,_,_=>none
 |_=>none
theorem decP_some{v:AV}{x:N20}(h:decP v=some x):∃y:Pt,y.n=x∧v=y.enc:=by
 unfold decP at h
 split at h
 ·split at h
  ·rename_i x y z t hx hy hz ht
   obtain⟨X,rfl,e1⟩:=decL_some hx
   obtain⟨Y,rfl,e2⟩:=decL_some hy
   obtain⟨Z,rfl,e3⟩:=decL_some hz
   obtain⟨T,rfl,e4⟩:=decL_some ht
   cases h
   refine⟨⟨X,Y,Z,T⟩,rfl, ?_⟩
   unfold Pt.enc Pt.cs
   rw[←e1,←e2,←e3,←e4]
   rfl
  ·cases h
 ·cases h
def oneP(f:N20→N20)(args:List AV)(S:St):Option (AV × St):=
 match args with
 |[u]=>match decP u with
  |some x=>(f x).now fun z=>some (z.enc,S)
  |none=>none
 |_=>none
def twoP(f:N20→N20→N20)(args:List AV)(S:St):Option (AV × St):=
 match args with
 |[u,v]=>match decP u,decP v with
  |some x,some y=>(f x y).now fun z=>some (z.enc,S)
  |_,_=>none
 |_=>none
theorem oneP_ok{f:N20→N20}{g:FuncId}{F:Pt→Pt}(hF:∀x S,DF lib nk g [x.enc] S=some ((F x).enc,S))(hn:∀x,(F x).n=f x.n)(args:List AV)(S:St)(r:AV × St)(h:oneP f args S=some r):DF lib nk g (args.map norm) S=some r:=by
 unfold oneP at h
 split at h
 ·split at h
  ·rename_i x hx
   obtain⟨X,rfl,rfl⟩:=decP_some hx
   rw[N20.now_eq,←hn,pt_enc]at h
   simp only[List.map_cons,List.map_nil,pt_no,hF]
   exact h
  ·cases h
 ·cases h
theorem twoP_ok{f:N20→N20→N20}{g:FuncId}{F:Pt→Pt→Pt}(hF:∀x y S,DF lib nk g [x.enc,y.enc] S=some ((F x y).enc,S))(hn:∀x y,(F x y).n=f x.n y.n)(args:List AV)(S:St)(r:AV × St)(h:twoP f args S=some r):DF lib nk g (args.map norm) S=some r:=by
 unfold twoP at h
 split at h
 ·split at h
  ·rename_i x y hx hy
   obtain⟨X,rfl,rfl⟩:=decP_some hx
   obtain⟨Y,rfl,rfl⟩:=decP_some hy
   rw[N20.now_eq,←hn,pt_enc]at h
   simp only[List.map_cons,List.map_nil,pt_no,hF]
   exact h
  ·cases h
 ·cases h
theorem partK_whole{n:Nat}(cs:List AV)(h:cs.length=n):partK (.agg n) cs 0=some (.agg (cs.map strip)):=by
 unfold partK sub
 simp only
 rw[if_pos (by omega),List.drop_zero,List.take_of_length_le (by omega)]
theorem splice_mid{l a b c b':List AV}{off:Nat}(hl:l=a++(b++c))(ha:a.length=off)(hb:b'.length=b.length):splice l off b'=a++(b'++c):=by
 subst hl
 subst ha
 unfold splice
 rw[List.take_left' rfl,hb,←List.append_assoc,List.drop_left' (by simp),List.append_assoc]
@[simp]theorem sch_len(b:Str)(i:Nat):(sch b i).length=i:=by
  induction i with
  |zero=>rfl
  |succ i ih=>simp[sch,ih]
theorem getD_get{l:List UInt32}{j:Nat}(h:j<l.length):l[j]? =some (l.getD j 0):=by
 rw[List.getD_eq_getElem?_getD,List.getElem?_eq_getElem h];rfl
def schC(b:Str)(i:Nat):List AV:=(sch b i).map w32++List.replicate (64 -i) (w32 0)
theorem schC_len(b:Str){i:Nat}(h:i≤64):(schC b i).length=64:=by simp[schC];omega
theorem schC_get(b:Str){i j:Nat}(h:j<i):(schC b i)[j]? =some (w32 ((sch b i).getD j 0)):=by
 unfold schC
 rw[List.getElem?_append_left (by simpa using h),List.getElem?_map,getD_get (by simpa using h)]
 rfl
theorem schC_set(b:Str){i:Nat}(h:i<64)(x:UInt32)(hx:x=if i<16 then wordB b i else nxtW (sch b i) i):splice (schC b i) i [w32 x]=schC b (i+1):=by
 have e:64 -i=(64 -(i+1))+1:=by omega
 have:=splice_mid (l:=schC b i) (off:=i) (b':=[w32 x]) (a:=(sch b i).map w32) (b:=[w32 0]) (c:=List.replicate (64 -(i+1)) (w32 0)) (by unfold schC;rw[e,List.replicate_succ];rfl) (by simp) rfl
 rw[this,hx]
 unfold schC
 simp[sch]
theorem beN_lt:∀(b:Str)(n k:Nat),n<256^k→beN n b<256^(k+b.length)
 |[],n,k,h=>by simpa[beN]using h
 |c::r,n,k,h=>by
  have hc:c.toNat<256:=c.toNat_lt
  have h1:n*256+c.toNat<256^(k+1):=by rw[Nat.pow_succ];omega
  have:=beN_lt r (n*256+c.toNat) (k+1) h1
  rw[beN]
  rwa [List.length_cons,Nat.add_comm r.length 1,←Nat.add_assoc]
def stM(S:St)(s z w:List AV):St:=S++[.mem s [] false,.mem z [] false,.mem w [] false]
theorem stM_getw(S:St)(s z w:List AV):(stM S s z w)[S.length+2]? =some (.mem w [] false):=get_at S _ 2
theorem stM_setw(S:St)(s z w w':List AV):(stM S s z w).set (S.length+2) (.mem w' [] false)=stM S s z w':=set_at S _ 2 _
theorem stM_ldw{S:St}{s z w:List AV}{j:Nat}{v:AV}(h:w[j]? =some v):loadK (stM S s z w) .cell (.ptr (S.length+2) j)=some v:=by
 rw[loadK_ptr (stM_getw S s z w),partK_cell,h]
theorem stM_stw{S:St}{s z w:List AV}{j:Nat}{x:UInt32}(h:j+1≤w.length)(tips:List (Option Nat)):storeK tips S.length (stM S s z w) 1 (.ptr (S.length+2) j) (w32 x)=some (tips,stM S s z (splice w j [w32 x])):=by
 rw[storeK_dat (datC_w32 x).dat (stM_getw ..),stM_setw,if_pos ⟨rfl,h⟩]
 rfl
theorem ixA_at(n m i:Nat)(h:i<n)(k:IntKind):ixAK n 1 (.ptr m 0) (.int k (i:Int))=some (.ptr m i):=by
 unfold ixAK
 simp[h]
theorem subI(i c:Nat)(h:c≤i)(h2:i<1000):binIK .sub (.int .i64 (i:Int)) (.int .i64 (c:Int))=some (.int .i64 ((i -c:Nat):Int)):=by
 show some (AV.int .i64 (IntKind.wrap .i64 ((i:Int) -(c:Int))))=_
 rw[wrap64 (by omega)]
 congr 2
 omega
theorem L_mix_0(b:Str)(hb:64≤b.length)(S:St)(m:Nat)(s z:List AV):∀d i,i+d=64→
 DC lib nk (.loop l_digest_mix256_0) ⟨[(1,encBs b),(2,.ptr m 0),(3,.ptr S.length 0),(6,.ptr (S.length+1) 0),(7,.ptr (S.length+2) 0),(18,.int .i64 (i:Nat))],[],S.length⟩ (stM S s z (schC b i))=
  some (.exit 0,⟨[(2,.ptr m 0),(3,.ptr S.length 0),(6,.ptr (S.length+1) 0),(7,.ptr (S.length+2) 0)],[],S.length⟩,stM S s z (schC b 64)):=by
 have aI:∀a b,binIK .add (.int .i64 a) (.int .i64 b)=some (.int .i64 (IntKind.wrap .i64 (a+b))):=fun _ _=>rfl
 have lI:∀a b,binIK .lss (.int .i64 a) (.int .i64 b)=some (.bool (decide (a<b))):=fun _ _=>rfl
 intro d
 induction d with
 |zero=>
  intro i hi
  have e:i=64:=by omega
  subst e
  rw[DC_loop',DC_of l_digest_mix256_0.eq_1]
  simp
 |succ d ih=>
  intro i hi
  have h3:i<64:=by omega
  have h3':(i:Int)<64:=by omega
  have hw:=wrap_succ (i:=i) (by omega)
  have n1:=ih (i+1) (by omega)
  have ixi:=ixA_at 64 (S.length+2) i h3 .i64
  have hlen:=schC_len b (i:=i) (by omega)
  by_cases h16:i<16
  ·have h16':(i:Int)<16:=by omega
   have m1:binIK .mul (.int .i64 4) (.int .i64 (i:Int))=some (.int .i64 ((4*i:Nat):Int)):=by
    show some (AV.int .i64 (IntKind.wrap .i64 (4*(i:Int))))=_
    rw[wrap64 (by omega)]
    congr 2
   have a1:IntKind.wrap .i64 (((4*i:Nat):Int)+4)=((4*i+4:Nat):Int):=by
    rw[wrap64 (by omega)]
    omega
   have ql:((b.take (4*i+4)).drop (4*i)).length=4:=by simp;omega
   have sl:=slL_encBs b (4*i) (4*i+4) (by omega) (by omega)
   obtain⟨q,hq⟩:∃q,q=(b.take (4*i+4)).drop (4*i):=⟨_,rfl⟩
   have wq:wordB b i=UInt32.ofNat (beN 0 q):=by rw[hq];rfl
   rw[←hq]at sl ql
   have e1:encBs q=.sl .none 1 (bcs q):=by
    cases q with
    |nil=>simp at ql
    |cons a r=>rfl
   have cn:=F_digest_number .none q (by omega) (stM S s z (schC b i))
   rw[←e1]at cn
   have bl:=beN_lt q 0 0 (by simp)
   rw[ql]at bl
   have cv:cvIK .u32 (.int .u64 ((beN 0 q:Nat):Int))=some (w32 (wordB b i)):=by
    show some (AV.int .u32 (IntKind.wrap .u32 ((beN 0 q:Nat):Int)))=some (AV.int .u32 (((wordB b i).toNat:Nat):Int))
    rw[wr32,wq,UInt32.toNat_ofNat']
   have st:=stM_stw (S:=S) (s:=s) (z:=z) (w:=schC b i) (j:=i) (x:=wordB b i) (by omega) []
   rw[schC_set b h3 (wordB b i) (by rw[if_pos h16])]at st
   obtain⟨A,hA⟩:∃A:Int,A=((4*i:Nat):Int):=⟨_,rfl⟩
   obtain⟨B,hB⟩:∃B:Int,B=((4*i+4:Nat):Int):=⟨_,rfl⟩
   rw[←hA]at m1 a1 sl
   rw[←hB]at a1 sl
   rw[DC_loop',DC_of l_digest_mix256_0.eq_1]
   simp at n1 hw
   simp[h3',h16', -binIK, -cvIK, -ixAK,aI,lI,m1,a1,sl,cn,cv,ixi,st]
   rw[DC_keep_of l_digest_mix256_0.eq_1]
   simp[hw,n1, -binIK,aI]
  ·have h16':¬(i:Int)<16:=by omega
   have s15:binIK .sub (.int .i64 (i:Int)) (.int .i64 15)=_:=subI i 15 (by omega) (by omega)
   have s2:binIK .sub (.int .i64 (i:Int)) (.int .i64 2)=_:=subI i 2 (by omega) (by omega)
   have s16:binIK .sub (.int .i64 (i:Int)) (.int .i64 16)=_:=subI i 16 (by omega) (by omega)
   have s7:binIK .sub (.int .i64 (i:Int)) (.int .i64 7)=_:=subI i 7 (by omega) (by omega)
   have x15:=ixA_at 64 (S.length+2) (i -15) (by omega) .i64
   have x2:=ixA_at 64 (S.length+2) (i -2) (by omega) .i64
   have x16:=ixA_at 64 (S.length+2) (i -16) (by omega) .i64
   have x7:=ixA_at 64 (S.length+2) (i -7) (by omega) .i64
   have l15:=stM_ldw (S:=S) (s:=s) (z:=z) (schC_get b (i:=i) (j:=i -15) (by omega))
   have l2:=stM_ldw (S:=S) (s:=s) (z:=z) (schC_get b (i:=i) (j:=i -2) (by omega))
   have l16:=stM_ldw (S:=S) (s:=s) (z:=z) (schC_get b (i:=i) (j:=i -16) (by omega))
   have l7:=stM_ldw (S:=S) (s:=s) (z:=z) (schC_get b (i:=i) (j:=i -7) (by omega))
   have st:=fun x(h:True)=>stM_stw (S:=S) (s:=s) (z:=z) (w:=schC b i) (j:=i) (x:=x) (by omega) []
   have st:=st (nxtW (sch b i) i) trivial
   rw[schC_set b h3 (nxtW (sch b i) i) (by rw[if_neg h16])]at st
   unfold nxtW at st
   generalize hx:(sch b i).getD (i -15) 0=x at*
   generalize hy:(sch b i).getD (i -2) 0=y at*
   generalize hx6:(sch b i).getD (i -16) 0=xg at*
   generalize hx7:(sch b i).getD (i -7) 0=xh at*
   have t7:DF lib nk 145 [w32 x,.int .i64 7] (stM S s z (schC b i))=_:=F_digest_turn x 7 (by omega) (by omega) _
   have t18:DF lib nk 145 [w32 x,.int .i64 18] (stM S s z (schC b i))=_:=F_digest_turn x 18 (by omega) (by omega) _
   have t17:DF lib nk 145 [w32 y,.int .i64 17] (stM S s z (schC b i))=_:=F_digest_turn y 17 (by omega) (by omega) _
   have t19:DF lib nk 145 [w32 y,.int .i64 19] (stM S s z (schC b i))=_:=F_digest_turn y 19 (by omega) (by omega) _
   obtain⟨A15,hA15⟩:∃A:Int,A=((i -15:Nat):Int):=⟨_,rfl⟩
   obtain⟨A2,hA2⟩:∃A:Int,A=((i -2:Nat):Int):=⟨_,rfl⟩
   obtain⟨A16,hA16⟩:∃A:Int,A=((i -16:Nat):Int):=⟨_,rfl⟩
   obtain⟨A7,hA7⟩:∃A:Int,A=((i -7:Nat):Int):=⟨_,rfl⟩
   rw[←hA15]at s15 x15
   rw[←hA2]at s2 x2
   rw[←hA16]at s16 x16
   rw[←hA7]at s7 x7
   rw[DC_loop',DC_of l_digest_mix256_0.eq_1]
   simp at n1 hw
   simp[h3',h16', -binIK, -cvIK, -ixAK,aI,lI,s15,s2,s16,s7,x15,x2,x16,x7,l15,l2,l16,l7,t7,t18,t17,t19,ixi,st]
   rw[DC_keep_of l_digest_mix256_0.eq_1]
   simp[hw,n1, -binIK,aI]
def V8.enc(v:V8):List AV:=[w32 v.a,w32 v.b,w32 v.c,w32 v.d,w32 v.e,w32 v.f,w32 v.g,w32 v.h]
@[simp]theorem V8.len(v:V8):v.enc.length=8:=rfl
@[simp]theorem V8.datL(v:V8):DatL v.enc:=by simp[V8.enc]
def stN(S:St)(s z w v:List AV):St:=S++[.mem s [] false,.mem z [] false,.mem w [] false,.mem v [] false]
theorem stN_getw(S:St)(s z w v:List AV):(stN S s z w v)[S.length+2]? =some (.mem w [] false):=get_at S _ 2
theorem stN_getv(S:St)(s z w v:List AV):(stN S s z w v)[S.length+3]? =some (.mem v [] false):=get_at S _ 3
theorem stN_setv(S:St)(s z w v v':List AV):(stN S s z w v).set (S.length+3) (.mem v' [] false)=stN S s z w v':=set_at S _ 3 _
theorem stN_gets(S:St)(s z w v:List AV):(stN S s z w v)[S.length]? =some (.mem s [] false):=by
 have:=get_at S [.mem s [] false,.mem z [] false,.mem w [] false,.mem v [] false] 0
 rw[Nat.add_zero]at this
 exact this
theorem stN_sets(S:St)(s s' z w v:List AV):(stN S s z w v).set S.length (.mem s' [] false)=stN S s' z w v:=by
 have:=set_at S [.mem s [] false,.mem z [] false,.mem w [] false,.mem v [] false] 0 (.mem s' [] false)
 rw[Nat.add_zero]at this
 exact this
theorem stN_setz(S:St)(s z z' w v:List AV):(stN S s z w v).set (S.length+1) (.mem z' [] false)=stN S s z' w v:=set_at S _ 1 _
theorem stN_getz(S:St)(s z w v:List AV):(stN S s z w v)[S.length+1]? =some (.mem z [] false):=get_at S _ 1
theorem stN_take(S:St)(s z w v:List AV):(stN S s z w v).take S.length=S:=List.take_left' rfl
theorem fill1w(cs:List AV)(off:Nat)(x:UInt32)(r:List (Nat × Nat × AV))(h:off+1≤cs.length):fillK cs ((off,1,w32 x)::r)=fillK (splice cs off [w32 x]) r:=by
 rw[fillK,if_pos ⟨rfl,rfl,h⟩];rfl
theorem fillW(a b c d e f g h:UInt32):fillK kz_d4c63d16 [(0,1,w32 a),(1,1,w32 b),(2,1,w32 c),(3,1,w32 d),(4,1,w32 e),(5,1,w32 f),(6,1,w32 g),(7,1,w32 h)]=some [w32 a,w32 b,w32 c,w32 d,w32 e,w32 f,w32 g,w32 h]:=by
 simp[fill1w,splice]
 rfl
set_option maxHeartbeats 1000000 in
theorem L_mix_1(S:St)(m:Nat)(ks ws:List UInt32)(hk:ks.length=64)(hws:ws.length=64)(bt:List (Option Nat))(q:Bool)(hm:S[m]? =some (.mem (ks.map w32) bt q))(s z:List AV)(v:V8):∀d i,i+d=64→
 DC lib nk (.loop l_digest_mix256_1) ⟨[(2,.ptr m 0),(3,.ptr S.length 0),(6,.ptr (S.length+1) 0),(7,.ptr (S.length+2) 0),(11,.ptr (S.length+3) 0),(73,.int .i64 (i:Nat))],[],S.length⟩ (stN S s z (ws.map w32) (v.rounds ks ws i).enc)=
  some (.exit 2,⟨[(3,.ptr S.length 0),(6,.ptr (S.length+1) 0),(11,.ptr (S.length+3) 0)],[],S.length⟩,stN S s z (ws.map w32) (v.rounds ks ws 64).enc):=by
 have aI:∀a b,binIK .add (.int .i64 a) (.int .i64 b)=some (.int .i64 (IntKind.wrap .i64 (a+b))):=fun _ _=>rfl
 have lI:∀a b,binIK .lss (.int .i64 a) (.int .i64 b)=some (.bool (decide (a<b))):=fun _ _=>rfl
 intro d
 induction d with
 |zero=>
  intro i hi
  have e:i=64:=by omega
  subst e
  rw[DC_loop',DC_of l_digest_mix256_1.eq_1]
  simp
 |succ d ih=>
  intro i hi
  have h3:i<64:=by omega
  have h3':(i:Int)<64:=by omega
  have hw:=wrap_succ (i:=i) (by omega)
  have n1:=ih (i+1) (by omega)
  have er:v.rounds ks ws (i+1)=(v.rounds ks ws i).round (ks.getD i 0) (ws.getD i 0):=rfl
  rw[er]at n1
  generalize v.rounds ks ws i=V at*
  generalize stN S s z (ws.map w32) (v.rounds ks ws 64).enc=R at*
  generalize hT:stN S s z (ws.map w32) V.enc=T at*
  have ixk:=ixA_at 64 m i h3 .i64
  have ixw:=ixA_at 64 (S.length+2) i h3 .i64
  have lk:loadK T .cell (.ptr m i)=some (w32 (ks.getD i 0)):=by
   have:T[m]? =some (.mem (ks.map w32) bt q):=by rw[←hT];exact get_front _ hm
   rw[loadK_ptr this,partK_cell,List.getElem?_map,getD_get (by omega)];rfl
  have lw:loadK T .cell (.ptr (S.length+2) i)=some (w32 (ws.getD i 0)):=by
   have:T[S.length+2]? =some (.mem (ws.map w32) [] false):=by rw[←hT];exact stN_getw ..
   rw[loadK_ptr this,partK_cell,List.getElem?_map,getD_get (by omega)];rfl
  generalize ks.getD i 0=k at*
  generalize ws.getD i 0=w at*
  have gv:T[S.length+3]? =some (.mem V.enc [] false):=by rw[←hT];exact stN_getv ..
  have lv0:loadK T .cell (.ptr (S.length+3) 0)=some (w32 V.a):=by rw[loadK_ptr gv];rfl
  have lv1:loadK T .cell (.ptr (S.length+3) 1)=some (w32 V.b):=by rw[loadK_ptr gv];rfl
  have lv2:loadK T .cell (.ptr (S.length+3) 2)=some (w32 V.c):=by rw[loadK_ptr gv];rfl
  have lv3:loadK T .cell (.ptr (S.length+3) 3)=some (w32 V.d):=by rw[loadK_ptr gv];rfl
  have lv4:loadK T .cell (.ptr (S.length+3) 4)=some (w32 V.e):=by rw[loadK_ptr gv];rfl
  have lv5:loadK T .cell (.ptr (S.length+3) 5)=some (w32 V.f):=by rw[loadK_ptr gv];rfl
  have lv6:loadK T .cell (.ptr (S.length+3) 6)=some (w32 V.g):=by rw[loadK_ptr gv];rfl
  have lv7:loadK T .cell (.ptr (S.length+3) 7)=some (w32 V.h):=by rw[loadK_ptr gv];rfl
  have ix8:∀j:Nat,j<8→ixAK 8 1 (.ptr (S.length+3) 0) (.int .i64 (j:Int))=some (.ptr (S.length+3) j):=fun j hj=>ixA_at 8 (S.length+3) j hj .i64
  have x0:ixAK 8 1 (.ptr (S.length+3) 0) (.int .i64 0)=some (.ptr (S.length+3) 0):=ix8 0 (by omega)
  have x1:ixAK 8 1 (.ptr (S.length+3) 0) (.int .i64 1)=some (.ptr (S.length+3) 1):=ix8 1 (by omega)
  have x2:ixAK 8 1 (.ptr (S.length+3) 0) (.int .i64 2)=some (.ptr (S.length+3) 2):=ix8 2 (by omega)
  have x3:ixAK 8 1 (.ptr (S.length+3) 0) (.int .i64 3)=some (.ptr (S.length+3) 3):=ix8 3 (by omega)
  have x4:ixAK 8 1 (.ptr (S.length+3) 0) (.int .i64 4)=some (.ptr (S.length+3) 4):=ix8 4 (by omega)
  have x5:ixAK 8 1 (.ptr (S.length+3) 0) (.int .i64 5)=some (.ptr (S.length+3) 5):=ix8 5 (by omega)
  have x6:ixAK 8 1 (.ptr (S.length+3) 0) (.int .i64 6)=some (.ptr (S.length+3) 6):=ix8 6 (by omega)
  have x7:ixAK 8 1 (.ptr (S.length+3) 0) (.int .i64 7)=some (.ptr (S.length+3) 7):=ix8 7 (by omega)
  have e6:DF lib nk 145 [w32 V.e,.int .i64 6] T=_:=F_digest_turn V.e 6 (by omega) (by omega) T
  have e11:DF lib nk 145 [w32 V.e,.int .i64 11] T=_:=F_digest_turn V.e 11 (by omega) (by omega) T
  have e25:DF lib nk 145 [w32 V.e,.int .i64 25] T=_:=F_digest_turn V.e 25 (by omega) (by omega) T
  have a2:DF lib nk 145 [w32 V.a,.int .i64 2] T=_:=F_digest_turn V.a 2 (by omega) (by omega) T
  have a13:DF lib nk 145 [w32 V.a,.int .i64 13] T=_:=F_digest_turn V.a 13 (by omega) (by omega) T
  have a22:DF lib nk 145 [w32 V.a,.int .i64 22] T=_:=F_digest_turn V.a 22 (by omega) (by omega) T
  have st:∀V':V8,storeK [] S.length T 8 (.ptr (S.length+3) 0) (.agg V'.enc)=some ([],stN S s z (ws.map w32) V'.enc):=fun V'=>by
   rw[storeK_dat (dat_agg V'.datL) gv,if_pos ⟨rfl,by simp⟩,←hT,stN_setv]
   rw[show(AV.agg V'.enc).cells=V'.enc from rfl,splice_all (by simp)]
  have fw:=fillW (V.t k w+V.u) V.a V.b V.c (V.d+V.t k w) V.e V.f V.g
  have st:=st (V.round k w)
  unfold V8.enc at st n1
  unfold V8.round at st n1
  unfold V8.t V8.u at st fw n1
  rw[DC_loop',DC_of l_digest_mix256_1.eq_1]
  simp at n1 hw
  simp[h3', -binIK, -ixAK,aI,lI,x0,x1,x2,x3,x4,x5,x6,x7,lv0,lv1,lv2,lv3,lv4,lv5,lv6,lv7,e6,e11,e25,a2,a13,a22,ixk,ixw,lk,lw,fw,st]
  rw[DC_keep_of l_digest_mix256_1.eq_1]
  simp[hw,n1, -binIK,aI]
theorem aI(a b:Int):binIK .add (.int .i64 a) (.int .i64 b)=some (.int .i64 (IntKind.wrap .i64 (a+b))):=rfl
theorem lI(a b:Int):binIK .lss (.int .i64 a) (.int .i64 b)=some (.bool (decide (a<b))):=rfl
def addC(s v:List UInt32)(i:Nat):List UInt32:=(List.zipWith (·+·) s v).take i++s.drop i
theorem addC_len{s v:List UInt32}(h:v.length=s.length){i:Nat}(hi:i≤s.length):(addC s v i).length=s.length:=by simp[addC,h];omega
theorem addC_get{s v:List UInt32}(h:v.length=s.length){i:Nat}(hi:i<s.length):(addC s v i)[i]? =some (s.getD i 0):=by
 unfold addC
 have:((List.zipWith (·+·) s v).take i).length=i:=by simp[h];omega
 rw[List.getElem?_append_right (by omega),this,Nat.sub_self,List.getElem?_drop,Nat.add_zero,getD_get hi]
theorem addC_set{s v:List UInt32}(h:v.length=s.length){i:Nat}(hi:i<s.length):splice ((addC s v i).map w32) i [w32 (s.getD i 0+v.getD i 0)]=(addC s v (i+1)).map w32:=by
 have hl:((List.zipWith (·+·) s v).take i).length=i:=by simp[h];omega
 have hs:s.drop i=s.getD i 0::s.drop (i+1):=drop_get (getD_get hi)
 have hz:(List.zipWith (·+·) s v)[i]? =some (s.getD i 0+v.getD i 0):=by
  rw[List.getElem?_zipWith,getD_get hi,getD_get (by omega)]
 have:=splice_mid (l:=(addC s v i).map w32) (off:=i) (b':=[w32 (s.getD i 0+v.getD i 0)]) (a:=((List.zipWith (·+·) s v).take i).map w32) (b:=[w32 (s.getD i 0)]) (c:=(s.drop (i+1)).map w32) (by unfold addC;rw[hs];simp) (by simp[h];omega) rfl
 rw[this]
 unfold addC
 rw[List.take_add_one,hz]
 simp
theorem V8.enc_l(v:V8):v.enc=v.l.map w32:=rfl
theorem addC_8(s v:V8):(addC s.l v.l 8).map w32=(s.add v).enc:=rfl
theorem addC_0(s v:V8):(addC s.l v.l 0).map w32=s.enc:=rfl
theorem L_mix_2(S:St)(s v:List UInt32)(hs:s.length=8)(hv:v.length=8)(z w:List AV):∀d i,i+d=8→
 DC lib nk (.loop l_digest_mix256_2) ⟨[(3,.ptr S.length 0),(6,.ptr (S.length+1) 0),(11,.ptr (S.length+3) 0),(157,.int .i64 (i:Nat))],[],S.length⟩ (stN S ((addC s v i).map w32) z w (v.map w32))=
  some (.exit 4,⟨[(3,.ptr S.length 0),(6,.ptr (S.length+1) 0)],[],S.length⟩,stN S ((addC s v 8).map w32) z w (v.map w32)):=by
 have aI:∀a b,binIK .add (.int .i64 a) (.int .i64 b)=some (.int .i64 (IntKind.wrap .i64 (a+b))):=fun _ _=>rfl
 have lI:∀a b,binIK .lss (.int .i64 a) (.int .i64 b)=some (.bool (decide (a<b))):=fun _ _=>rfl
 intro d
 induction d with
 |zero=>
  intro i hi
  have e:i=8:=by omega
  subst e
  rw[DC_loop',DC_of l_digest_mix256_2.eq_1]
  simp
 |succ d ih=>
  intro i hi
  have h3':(i:Int)<8:=by omega
  have hw:=wrap_succ (i:=i) (by omega)
  have n1:=ih (i+1) (by omega)
  have x3:=ixA_at 8 S.length i (by omega) .i64
  have x11:=ixA_at 8 (S.length+3) i (by omega) .i64
  have l3:loadK (stN S ((addC s v i).map w32) z w (v.map w32)) .cell (.ptr S.length i)=some (w32 (s.getD i 0)):=by
   rw[loadK_ptr (stN_gets ..),partK_cell,List.getElem?_map,addC_get (by omega) (by omega)];rfl
  have l11:loadK (stN S ((addC s v i).map w32) z w (v.map w32)) .cell (.ptr (S.length+3) i)=some (w32 (v.getD i 0)):=by
   rw[loadK_ptr (stN_getv ..),partK_cell,List.getElem?_map,getD_get (by omega)];rfl
  have st:storeK [] S.length (stN S ((addC s v i).map w32) z w (v.map w32)) 1 (.ptr S.length i) (w32 (s.getD i 0+v.getD i 0))=some ([],stN S ((addC s v (i+1)).map w32) z w (v.map w32)):=by
   rw[storeK_dat (datC_w32 _).dat (stN_gets ..),if_pos ⟨rfl,by rw[List.length_map,addC_len (by omega) (by omega)];omega⟩,stN_sets]
   rw[show(w32 (s.getD i 0+v.getD i 0)).cells=[w32 (s.getD i 0+v.getD i 0)]from rfl,addC_set (by omega) (by omega)]
  generalize s.getD i 0=a at*
  generalize v.getD i 0=b at*
  generalize(addC s v i).map w32=C at*
  generalize(addC s v (i+1)).map w32=C1 at*
  generalize(addC s v 8).map w32=C8 at*
  generalize v.map w32=V at*
  rw[DC_loop',DC_of l_digest_mix256_2.eq_1]
  simp at n1 hw
  simp[h3', -binIK, -ixAK,aI,lI,x3,x11,l3,l11,st]
  rw[DC_keep_of l_digest_mix256_2.eq_1]
  simp[hw,n1, -binIK,aI]
theorem zw64:kz_ad83b20e=List.replicate 64 (w32 0):=rfl
theorem F_digest_mix256(s:V8)(b:Str)(hb:64≤b.length)(m:Nat)(ks:List UInt32)(hk:ks.length=64)(S:St)(bt:List (Option Nat))(q:Bool)(hm:S[m]? =some (.mem (ks.map w32) bt q)):
 DF lib nk 136 [.agg s.enc,encBs b,.ptr m 0] S=some (.agg (s.mix ks b).enc,S):=by
 have c0:=L_mix_0 b hb S m s.enc kz_d4c63d16 64 0 (by omega)
 have e0:schC b 0=kz_ad83b20e:=by unfold schC;rw[zw64];rfl
 have e64:schC b 64=(sch b 64).map w32:=by unfold schC;simp
 rw[e0,e64]at c0
 have c1:=L_mix_1 S m ks (sch b 64) hk (by simp) bt q hm s.enc kz_d4c63d16 s 64 0 (by omega)
 have r0:s.rounds ks (sch b 64) 0=s:=rfl
 rw[r0]at c1
 have c2:=L_mix_2 S s.l (s.rounds ks (sch b 64) 64).l rfl rfl kz_d4c63d16 ((sch b 64).map w32) 8 0 (by omega)
 rw[addC_0,addC_8,←V8.enc_l]at c2
 have em:s.add (s.rounds ks (sch b 64) 64)=s.mix ks b:=rfl
 rw[em]at c2
 generalize s.rounds ks (sch b 64) 64=V at*
 generalize s.mix ks b=M at*
 generalize(sch b 64).map w32=W at*
 have dS:=s.datL
 have dM:=M.datL
 have w0:S++[Box.mem s.enc [] false,Box.mem kz_d4c63d16 [] false,Box.mem kz_ad83b20e [] false]=stM S s.enc kz_d4c63d16 kz_ad83b20e:=rfl
 have w1:stM S s.enc kz_d4c63d16 W++[Box.mem kz_d4c63d16 [] false]=stN S s.enc kz_d4c63d16 W kz_d4c63d16:=by unfold stM stN;simp
 have lM:(stM S s.enc kz_d4c63d16 W).length=S.length+3:=by simp[stM]
 have ld8:loadK (stM S s.enc kz_d4c63d16 W) (.agg 8) (.ptr S.length 0)=some (.agg s.enc):=by
  have:(stM S s.enc kz_d4c63d16 W)[S.length]? =some (.mem s.enc [] false):=by
   have:=get_at S [.mem s.enc [] false,.mem kz_d4c63d16 [] false,.mem W [] false] 0
   rw[Nat.add_zero]at this
   exact this
  rw[loadK_ptr this,partK_whole _ s.len,dS.strips]
 have st8:storeK [] S.length (stN S s.enc kz_d4c63d16 W kz_d4c63d16) 8 (.ptr (S.length+3) 0) (.agg s.enc)=some ([],stN S s.enc kz_d4c63d16 W s.enc):=by
  rw[storeK_dat (dat_agg dS) (stN_getv ..),if_pos ⟨s.len,by decide⟩,stN_setv,show(AV.agg s.enc).cells=s.enc from rfl,splice_all (by simp)]
 have ldM:∀V,loadK (stN S M.enc kz_d4c63d16 W V) (.agg 8) (.ptr S.length 0)=some (.agg M.enc):=fun V=>by
  rw[loadK_ptr (stN_gets ..),partK_whole _ M.len,dM.strips]
 have stM':∀V,storeK [] S.length (stN S M.enc kz_d4c63d16 W V) 8 (.ptr (S.length+1) 0) (.agg M.enc)=some ([],stN S M.enc M.enc W V):=fun V=>by
  rw[storeK_dat (dat_agg dM) (stN_getz ..),if_pos ⟨M.len,by decide⟩,stN_setz,show(AV.agg M.enc).cells=M.enc from rfl,splice_all (by simp)]
 have ldz:∀V,loadK (stN S M.enc M.enc W V) (.agg 8) (.ptr (S.length+1) 0)=some (.agg M.enc):=fun V=>by
  rw[loadK_ptr (stN_getz ..),partK_whole _ M.len,dM.strips]
 have rs:∀V,resK 136 [] [.agg M.enc] S (stN S M.enc M.enc W V)=some (.agg M.enc,S):=fun V=>by
  have nr:normr (.agg M.enc)=.agg M.enc:=by show AV.agg (M.enc.map normc)=_;rw[dM.normcs]
  rw[resK_one,nr]
  simp[notTup,stN_take,dM]
 rw[run_digest_mix256,DC_of c_digest_mix256.eq_1]
 generalize kz_ad83b20e=Z64 at*
 simp at c0 c1 c2
 simp[w0]
 rw[DC_keep_of l_digest_mix256_0.eq_1]
 simp[c0,ld8,w1,lM,st8]
 rw[DC_keep_of l_digest_mix256_1.eq_1]
 simp[c1]
 rw[DC_keep_of l_digest_mix256_2.eq_1]
 simp[c2,ldM,stM',ldz,rs]
theorem wordB_app(b c:Str)(h:64≤b.length){i:Nat}(hi:i<16):wordB (b++c) i=wordB b i:=by
 unfold wordB
 rw[List.take_append_of_le_length (by omega)]
theorem sch_app(b c:Str)(h:64≤b.length):∀n,sch (b++c) n=sch b n
 |0=>rfl
 |n+1=>by
  rw[sch,sch,sch_app b c h n]
  by_cases hn:n<16
  ·rw[if_pos hn,if_pos hn,wordB_app b c h hn]
  ·rw[if_neg hn,if_neg hn]
theorem mix_app(v:V8)(ks:List UInt32)(b c:Str)(h:64≤b.length):v.mix ks (b++c)=v.mix ks b:=by
 unfold V8.mix
 rw[sch_app b c h]
theorem absN_app(c:Str):∀(n:Nat)(v:V8)(b:Str),64*n≤b.length→absN n v (b++c)=absN n v b
 |0,_,_,_=>rfl
 |n+1,v,b,h=>by
  rw[absN,absN,mix_app v k256 b c (by omega),List.drop_append_of_le_length (by omega),absN_app c n _ _ (by rw[List.length_drop];omega)]
theorem absN_add:∀(n m:Nat)(v:V8)(b:Str),absN (n+m) v b=absN m (absN n v b) (b.drop (64*n))
 |0,m,v,b=>by rw[Nat.zero_add,absN,Nat.mul_zero,List.drop_zero]
 |n+1,m,v,b=>by
  rw[show n+1+m=n+m+1 by omega,absN,absN,absN_add n m,List.drop_drop]
  congr 2
  omega
theorem sumB_on(b:Str):sumB (absN (b.length/64) h256 b) (b.drop (64*(b.length/64))) b.length=sumB h256 b b.length:=by
 unfold sumB
 have hl:64*(b.length/64)≤b.length:=by omega
 have e:(b++fillB b.length).length/64=b.length/64+(b.drop (64*(b.length/64))++fillB b.length).length/64:=by
  rw[List.length_append,List.length_append,List.length_drop]
  omega
 rw[e,absN_add,absN_app _ _ _ _ hl,List.drop_append_of_le_length hl]
theorem beL_len:∀k n,(beL k n).length=k
 |0,_=>rfl
 |k+1,n=>by rw[beL,List.length_append,beL_len k];rfl
theorem fillB_len(n:Nat):(fillB n).length=9+(119 -n %64)%64:=by
 unfold fillB
 rw[List.length_cons,List.length_append,List.length_replicate,beL_len]
 omega
theorem V8.out_len(v:V8):v.out.length=32:=by
 unfold V8.out V8.l
 simp[beL_len]
theorem cv8(n:Nat):cvIK .u8 (.int .u64 (n:Int))=some (.int .u8 (((UInt8.ofNat n).toNat:Nat):Int)):=by
 show some (AV.int .u8 (IntKind.wrap .u8 (n:Int)))=_
 have:IntKind.wrap .u8 (n:Int)=((n %256:Nat):Int):=by show(n:Int)%256=_;omega
 rw[this,UInt8.toNat_ofNat']
def sum256(b:Str):Str:=sumB h256 b b.length
theorem sum256_len(b:Str):(sum256 b).length=32:=V8.out_len _
theorem k256_len:k256.length=64:=rfl
theorem datL_w32s(l:List UInt32):DatL (l.map w32):=by
 induction l with
 |nil=>simp
 |cons a r ih=>simp[ih]
theorem F_digest_first256(S:St):DF lib nk 134 [] S=some (.agg h256.enc,S):=by
 have fw:fillK kz_d4c63d16 [(0,1,.int .u32 1779033703),(1,1,.int .u32 3144134277),(2,1,.int .u32 1013904242),(3,1,.int .u32 2773480762),(4,1,.int .u32 1359893119),(5,1,.int .u32 2600822924),(6,1,.int .u32 528734635),(7,1,.int .u32 1541459225)]=some h256.enc:=by
  have:=fillW 1779033703 3144134277 1013904242 2773480762 1359893119 2600822924 528734635 1541459225
  exact this
 have dl:=h256.datL
 have hl:h256.enc.length=8:=rfl
 have nr:normr (.agg h256.enc)=.agg h256.enc:=by show AV.agg (h256.enc.map normc)=_;rw[dl.normcs]
 have st:storeK [] S.length (S++[.mem kz_d4c63d16 [] false]) 8 (.ptr S.length 0) (.agg h256.enc)=some ([],S++[.mem h256.enc [] false]):=by
  rw[storeK_dat_at0 (dat_agg dl)]
  simp only[List.getElem?_cons_zero]
  rw[if_pos ⟨hl,by decide⟩,show(AV.agg h256.enc).cells=h256.enc from rfl,splice_all (by rw[hl];rfl)]
  rfl
 have ld:loadK (S++[.mem h256.enc [] false]) (.agg 8) (.ptr S.length 0)=some (.agg h256.enc):=by
  rw[loadK_at0];exact(partK_whole _ hl).trans (by rw[dl.strips])
 rw[run_digest_first256,DC_of c_digest_first256.eq_1]
 generalize h256.enc=H at*
 simp[fw,st,ld,notTup,nr,dl]
theorem fillK64:fillK kz_ad83b20e [(0,1,.int .u32 1116352408),(1,1,.int .u32 1899447441),(2,1,.int .u32 3049323471),(3,1,.int .u32 3921009573),(4,1,.int .u32 961987163),(5,1,.int .u32 1508970993),(6,1,.int .u32 2453635748),(7,1,.int .u32 2870763221),(8,1,.int .u32 3624381080),(9,1,.int .u32 310598401),(10,1,.int .u32 607225278),(11,1,.int .u32 1426881987),(12,1,.int .u32 1925078388),(13,1,.int .u32 2162078206),(14,1,.int .u32 2614888103),(15,1,.int .u32 3248222580),(16,1,.int .u32 3835390401),(17,1,.int .u32 4022224774),(18,1,.int .u32 264347078),(19,1,.int .u32 604807628),(20,1,.int .u32 770255983),(21,1,.int .u32 1249150122),(22,1,.int .u32 1555081692),(23,1,.int .u32 1996064986),(24,1,.int .u32 2554220882),(25,1,.int .u32 2821834349),(26,1,.int .u32 2952996808),(27,1,.int .u32 3210313671),(28,1,.int .u32 3336571891),(29,1,.int .u32 3584528711),(30,1,.int .u32 113926993),(31,1,.int .u32 338241895),(32,1,.int .u32 666307205),(33,1,.int .u32 773529912),(34,1,.int .u32 1294757372),(35,1,.int .u32 1396182291),(36,1,.int .u32 1695183700),(37,1,.int .u32 1986661051),(38,1,.int .u32 2177026350),(39,1,.int .u32 2456956037),(40,1,.int .u32 2730485921),(41,1,.int .u32 2820302411),(42,1,.int .u32 3259730800),(43,1,.int .u32 3345764771),(44,1,.int .u32 3516065817),(45,1,.int .u32 3600352804),(46,1,.int .u32 4094571909),(47,1,.int .u32 275423344),(48,1,.int .u32 430227734),(49,1,.int .u32 506948616),(50,1,.int .u32 659060556),(51,1,.int .u32 883997877),(52,1,.int .u32 958139571),(53,1,.int .u32 1322822218),(54,1,.int .u32 1537002063),(55,1,.int .u32 1747873779),(56,1,.int .u32 1955562222),(57,1,.int .u32 2024104815),(58,1,.int .u32 2227730452),(59,1,.int .u32 2361852424),(60,1,.int .u32 2428436474),(61,1,.int .u32 2756734187),(62,1,.int .u32 3204031479),(63,1,.int .u32 3329325298)]=some (k256.map w32):=by kernel_rfl
theorem F_digest_rounds256(S:St):DF lib nk 135 [] S=some (.agg (k256.map w32),S):=by
 have fw:=fillK64
 have dl:=datL_w32s k256
 have hl:(k256.map w32).length=64:=rfl
 have hz:kz_ad83b20e.length=64:=rfl
 have nr:normr (.agg (k256.map w32))=.agg (k256.map w32):=by show AV.agg ((k256.map w32).map normc)=_;rw[dl.normcs]
 have st:storeK [] S.length (S++[.mem kz_ad83b20e [] false]) 64 (.ptr S.length 0) (.agg (k256.map w32))=some ([],S++[.mem (k256.map w32) [] false]):=by
  rw[storeK_dat_at0 (dat_agg dl)];simp[AV.cells,hl,hz]
 have ld:loadK (S++[.mem (k256.map w32) [] false]) (.agg 64) (.ptr S.length 0)=some (.agg (k256.map w32)):=by
  rw[loadK_at0];exact(partK_whole _ hl).trans (by rw[dl.strips])
 rw[run_digest_rounds256,DC_of c_digest_rounds256.eq_1]
 generalize k256.map w32=H at*
 generalize kz_ad83b20e=Z at*
 simp[fw,st,ld,notTup,nr,dl]
def smC(v:V8)(lv:AV)(n:Int):List AV:=v.enc++[lv,.int .i64 n]
theorem F_digest_New(S:St):DF lib nk 121 [] S=some (.ptr S.length 0,S++[.mem (smC h256 .nils 0) [] false]):=by
 have c1:=F_digest_first256 S
 rw[run_digest_New,DC_of c_digest_New.eq_1]
 have fk:fillXK kz_0ab0bd5a [(0,8,.agg h256.enc)]=some (smC h256 .nils 0):=by kernel_rfl
 have bx:boxV 10 [] S (.aggx (smC h256 .nils 0))=some (.ptr S.length 0,[],S++[.mem (smC h256 .nils 0) [] false]):=rfl
 have bl:(smC h256 .nils 0).length=10:=rfl
 have hlt:∀m q,ltL m q (smC h256 .nils 0)=true:=fun m q=>by simp[smC,V8.enc,w32,ltL,lt]
 have hst:(smC h256 .nils 0).map strip=smC h256 .nils 0:=rfl
 generalize hX:smC h256 .nils 0=X at*
 simp[c1,fk,bx,bl,strip,notTup,normr,giveRes,plainRes,plain,resB,fineRes,fine1,boxesFine,lt,rlt,hlt]
section
def LOk(j:Nat)(lv:AV)(bt:List (Option Nat))(l:Str):Prop:=(l=[]∧lv=.nils)∨(l≠[]∧∃k,lv=.sl (.bx j k) 1 (bcl l)∧bt[k]? =some (some l.length))
theorem smC_len(v:V8)(lv:AV)(n:Int):(smC v lv n).length=10:=rfl
theorem smC_s8(v:V8)(lv lv':AV)(n:Int):splice (smC v lv n) 8 [lv']=smC v lv' n:=rfl
theorem sm_app{T:St}{j:Nat}{v:V8}{lv:AV}{n:Int}{bt:List (Option Nat)}{l b:Str}(hT:T[j]? =some (.mem (smC v lv n) bt false))(hl:LOk j lv bt l)(hb:l.length+b.length≤1073741824):
 ∃v1 t1 T1 t2 lv' bt',appendK 1 [] T lv (encBs b)=some (v1,t1,T1)∧(∀nb,storeK t1 nb T1 1 (.ptr j 8) v1=some (t2,T.set j (.mem (smC v lv' n) bt' false)))∧LOk j lv' bt' (l++b):=by
 have hj:=(List.getElem?_eq_some_iff.1 hT).1
 by_cases hbe:b=[]
 ·subst hbe
  have e:elemsOf T (encBs [])=some (1,[]):=rfl
  rw[List.append_nil]
  rcases hl with⟨h1,rfl⟩|⟨h1,k,rfl,h2⟩
  ·refine⟨.nils,[],T,[],.nils,bt,by simp[appendK,e],fun nb=>?_,.inl ⟨h1,rfl⟩⟩
   unfold storeK
   simp only[hT]
   rw[if_pos ⟨rfl,rfl,by rw[smC_len];omega,.inr rfl⟩]
   rfl
  ·refine⟨.sl (.bx j k) 1 (bcl l),[],T,[],.sl (.bx j k) 1 (bcl l),bt,by simp[appendK,e],fun nb=>?_,.inr ⟨h1,k,rfl,h2⟩⟩
   have hp:plainEs (bcl l)=true:=plainEs_bcl l
   unfold storeK
   simp only[hT]
   rw[if_pos ⟨rfl,rfl,by rw[smC_len];omega,.inr hp⟩]
   simp[regBox,AV.cells,smC_s8]
 ·have he:elemsOf T (encBs b)=some (1,bcl b):=elems_encBs T b hbe
  have hb0:¬b.length=0:=by cases b<;>simp at hbe⊢
  have hbn:¬bcl b=[]:=fun e=>hbe ((bcl_nil _).1 e)
  rcases hl with⟨rfl,rfl⟩|⟨h1,k,rfl,h2⟩
  ·refine⟨.sl (.fr 0) 1 (bcl b),[some b.length],T,[none],.sl (.bx j bt.length) 1 (bcl b),bt++[some b.length], ?_,fun nb=>?_,.inr ⟨by simpa using hbe,bt.length,by simp,by simp⟩⟩
   ·have:b.length≤1073741824:=by simp at hb;exact hb
    unfold appendK
    rw[he]
    simp[hbe,this]
   ·have hp:plainEs (bcl b)=true:=plainEs_bcl b
    unfold storeK
    simp only[hT]
    rw[if_pos ⟨rfl,rfl,by rw[smC_len];omega,.inr hp⟩]
    simp[regBox,AV.cells,smC_s8]
  ·have hlt:¬(1073741824<l.length+b.length):=by omega
   refine⟨.sl (.bx j k) 1 (bcl (l++b)),[],T.set j (.mem (smC v (.sl (.bx j k) 1 (bcl l)) n) (bt.set k (some (l++b).length)) false),[],.sl (.bx j k) 1 (bcl (l++b)),bt.set k (some (l++b).length), ?_,fun nb=>?_,.inr ⟨by simp[h1],k,rfl, ?_⟩⟩
   ·unfold appendK
    rw[he]
    simp[hbe,hT,h2,hlt]
   ·have hp:plainEs (bcl (l++b))=true:=plainEs_bcl _
    unfold storeK
    simp only[List.getElem?_set_self hj]
    rw[if_pos ⟨rfl,rfl,by rw[smC_len];omega,.inr hp⟩]
    simp[regBox,AV.cells,smC_s8]
   ·have hk:=(List.getElem?_eq_some_iff.1 h2).1
    rw[List.getElem?_set_self hk]
def stW(S:St)(j:Nat)(c:List AV)(bt:List (Option Nat)):St:=S.set j (.mem c bt false)++[.mem (k256.map w32) [] false]
section
variable{S:St}{j:Nat}(hj:j<S.length)
include hj in
theorem stW_get(c:List AV)(bt:List (Option Nat)):(stW S j c bt)[j]? =some (.mem c bt false):=get_front _ (List.getElem?_set_self hj)
include hj in
theorem stW_set(c c':List AV)(bt bt':List (Option Nat)):(stW S j c bt).set j (.mem c' bt' false)=stW S j c' bt':=by
 unfold stW
 rw[set_front _ (by simpa using hj),List.set_set]
theorem stW_k(c:List AV)(bt:List (Option Nat)):(stW S j c bt)[S.length]? =some (.mem (k256.map w32) [] false):=by
 have:=get_at (S.set j (.mem c bt false)) [.mem (k256.map w32) [] false] 0
 rw[Nat.add_zero,List.length_set]at this
 exact this
theorem stW_take(c:List AV)(bt:List (Option Nat)):(stW S j c bt).take S.length=S.set j (.mem c bt false):=by
 unfold stW
 rw[List.take_append_of_le_length (by simp),List.take_of_length_le (by simp)]
include hj in
theorem L_stream_Write(bt:List (Option Nat))(k:Nat)(sz:Int):∀(n:Nat)(v:V8)(l:Str)(r:Right)(tips:List (Option Nat)),l.length/64=n→(r=.bx j k∨r=.none)→
 ∃r',(r'=.bx j k∨r'=.none)∧DC lib nk (.loop l_digest_Stream_Write_0) ⟨[(0,.ptr j 0),(4,.ptr S.length 0)],tips,S.length⟩ (stW S j (smC v (.sl r 1 (bcl l)) sz) bt)=
  some (.exit 0,⟨[(0,.ptr j 0)],tips,S.length⟩,stW S j (smC (absN n v l) (.sl r' 1 (bcl (l.drop (64*n)))) sz) bt):=by
 intro n
 induction n with
 |zero=>
  intro v l r tips hn hr
  have h64:¬(64:Int)≤(l.length:Int):=by omega
  have ld:loadK (stW S j (smC v (.sl r 1 (bcl l)) sz) bt) .cell (.ptr j 8)=some (.sl r 1 (bcl l)):=by rw[loadK_ptr (stW_get hj ..)];rfl
  refine⟨r,hr, ?_⟩
  rw[DC_loop',DC_of l_digest_Stream_Write_0.eq_1]
  simp[evNilCheck,ld,lenLK,h64,absN]
 |succ n ih=>
  intro v l r tips hn hr
  have h64n:64≤l.length:=by omega
  have h64:(64:Int)≤(l.length:Int):=by omega
  have ld:∀v,loadK (stW S j (smC v (.sl r 1 (bcl l)) sz) bt) .cell (.ptr j 8)=some (.sl r 1 (bcl l)):=fun v=>by rw[loadK_ptr (stW_get hj ..)];rfl
  have ld8:loadK (stW S j (smC v (.sl r 1 (bcl l)) sz) bt) (.agg 8) (.ptr j 0)=some (.agg v.enc):=by rw[loadK_ptr (stW_get hj ..)];rfl
  obtain⟨r',h1,h2⟩:=ih (v.mix k256 l) (l.drop 64) .none tips (by rw[List.length_drop];omega) (.inr rfl)
  refine⟨r',h1, ?_⟩
  have ea:absN (n+1) v l=absN n (v.mix k256 l) (l.drop 64):=rfl
  have ed:l.drop (64*(n+1))=(l.drop 64).drop (64*n):=by rw[List.drop_drop];congr 1;omega
  rw[ea,ed]
  have ln:l≠[]:=by intro e;rw[e]at h64n;simp at h64n
  have gv:∀T,giveArg T (.sl r 1 (bcl l))=some (.sl .none 1 (bcl l)):=fun T=>by rcases hr with rfl|rfl<;>rfl
  have gn:norm (.sl .none 1 (bcl l))=encBs l:=by cases l with
   |nil=>exact absurd rfl ln
   |cons a q=>rfl
  have gl:∀T,lockOne T (.sl r 1 (bcl l))=T:=fun T=>by rcases hr with rfl|rfl<;>rfl
  have gu:∀T T',unlockOne T T' (.sl r 1 (bcl l))=T':=fun T T'=>by rcases hr with rfl|rfl<;>rfl
  have cm:=F_digest_mix256 v l h64n S.length k256 k256_len (stW S j (smC v (.sl r 1 (bcl l)) sz) bt) [] false (stW_k ..)
  have st8:storeK tips S.length (stW S j (smC v (.sl r 1 (bcl l)) sz) bt) 8 (.ptr j 0) (.agg (v.mix k256 l).enc)=some (tips,stW S j (smC (v.mix k256 l) (.sl r 1 (bcl l)) sz) bt):=by
   rw[storeK_dat (dat_agg (V8.datL _)) (stW_get hj ..),stW_set hj,if_pos ⟨rfl,by rw[smC_len];omega⟩]
   rfl
  have sl:slLK 1 (.sl r 1 (bcl l)) (some (.int .i64 64)) none=some (.sl .none 1 (bcl (l.drop 64))):=by
   have e1:lent r=.none:=by rcases hr with rfl|rfl<;>rfl
   have e2:(List.take (bcl l).length (bcl l)).drop 64=bcl (l.drop 64):=by rw[List.take_length];simp[bcl]
   unfold slLK
   simp only[bound]
   rw[if_neg (by simp),bcl_len,if_pos ⟨by omega,by omega⟩]
   simp only[show(64:Int).toNat=64 from rfl]
   rw[if_neg (by omega),e1,←bcl_len l,e2]
  have st1:storeK tips S.length (stW S j (smC (v.mix k256 l) (.sl r 1 (bcl l)) sz) bt) 1 (.ptr j 8) (.sl .none 1 (bcl (l.drop 64)))=some (tips,stW S j (smC (v.mix k256 l) (.sl .none 1 (bcl (l.drop 64))) sz) bt):=by
   have hp:plainEs (bcl (l.drop 64))=true:=plainEs_bcl _
   unfold storeK
   simp only[stW_get hj]
   rw[if_pos ⟨rfl,rfl,by rw[smC_len];omega,.inr hp⟩]
   show some (tips,(stW ..).set j (.mem (splice _ 8 [_]) bt false))=_
   rw[stW_set hj,smC_s8]
   rfl
  have tka:∀c,takeRet tips (.agg c)=(.agg c,tips):=fun _=>rfl
  generalize v.mix k256 l=V at*
  generalize hE:V.enc=VE at*
  rw[DC_loop',DC_of l_digest_Stream_Write_0.eq_1]
  simp at h2
  simp[evNilCheck,ld,ld8,lenLK,h64,gv,gn,gl,gu,lockAll,unlockAll,lk_ptr,ul_ptr,cm,tka,st8,sl,st1]
  rw[DC_keep_of l_digest_Stream_Write_0.eq_1]
  simp[h2]
end
end
theorem F_stream_Write{S:St}{j:Nat}{v:V8}{lv:AV}{n:Nat}{bt:List (Option Nat)}{l:Str}(hS:S[j]? =some (.mem (smC v lv (n:Int)) bt false))(hl:LOk j lv bt l)(b:Str)(hb:l.length+b.length≤1073741824)(hn:n+b.length≤4611686018427387904):
 ∃lv' bt',LOk j lv' bt' ((l++b).drop (64*((l++b).length/64)))∧
  DF lib nk 122 [.ptr j 0,encBs b] S=some (.tup [],S.set j (.mem (smC (absN ((l++b).length/64) v (l++b)) lv' ((n+b.length:Nat):Int)) bt' false)):=by
 have hj:=(List.getElem?_eq_some_iff.1 hS).1
 have b0:evBinE .eql .ptr true (.ptr j 0) .nilp=some (.bool false):=rfl
 have l9:loadK S .cell (.ptr j 9)=some (.int .i64 (n:Int)):=by rw[loadK_ptr hS];rfl
 have hw:IntKind.wrap .i64 ((n:Int)+(b.length:Int))=((n+b.length:Nat):Int):=by rw[wrap64 (by omega)];omega
 have s9:storeK [] S.length S 1 (.ptr j 9) (.int .i64 ((n+b.length:Nat):Int))=some ([],S.set j (.mem (smC v lv ((n+b.length:Nat):Int)) bt false)):=by
  rw[storeK_dat (dat_int .i64 _) hS,if_pos ⟨rfl,by rw[smC_len];omega⟩]
  rfl
 obtain⟨N,hN⟩:∃N:Int,N=((n+b.length:Nat):Int):=⟨_,rfl⟩
 rw[←hN]at hw s9⊢
 have hS1:(S.set j (.mem (smC v lv N) bt false))[j]? =some (.mem (smC v lv N) bt false):=List.getElem?_set_self hj
 obtain⟨v1,t1,T1,t2,lv1,bt1,a1,a2,a3⟩:=sm_app hS1 hl hb
 rw[List.set_set]at a2
 have l8:loadK (S.set j (.mem (smC v lv N) bt false)) .cell (.ptr j 8)=some lv:=by rw[loadK_ptr hS1];rfl
 have hS2:(S.set j (.mem (smC v lv1 N) bt1 false))[j]? =some (.mem (smC v lv1 N) bt1 false):=List.getElem?_set_self hj
 have l8':loadK (S.set j (.mem (smC v lv1 N) bt1 false)) .cell (.ptr j 8)=some lv1:=by rw[loadK_ptr hS2];rfl
 have ln:lenLK lv1=some (.int .i64 ((l++b).length:Int)):=by
  rcases a3 with⟨h1,rfl⟩|⟨_,k,rfl,_⟩
  ·rw[h1];rfl
  ·simp[lenLK]
 have tkS:∀c,(S.set j c).take S.length=S.set j c:=fun c=>List.take_of_length_le (by simp)
 rw[run_digest_Stream_Write,DC_of c_digest_Stream_Write.eq_1]
 have hLl:(l++b).length≤1073741824:=by simpa using hb
 generalize l++b=L at*
 by_cases h64:L.length<64
 ·have hz:L.length/64=0:=by omega
  have h64i:(L.length:Int)<64:=by omega
  rw[hz]
  refine⟨lv1,bt1,a3, ?_⟩
  have e0:absN 0 v L=v:=rfl
  rw[e0]
  simp[b0,evNilCheck,l9,hw,s9,l8,a1,a2,l8',ln,h64i,tkS,resK,giveResL,retOf,plainRes]
 ·have h64i:¬(L.length:Int)<64:=by omega
  obtain⟨hne,k,rfl,hk⟩:L≠[]∧∃k,lv1=.sl (.bx j k) 1 (bcl L)∧bt1[k]? =some (some L.length):=by
   rcases a3 with⟨h1,_⟩|h
   ·rw[h1]at h64;simp at h64
   ·exact h
  obtain⟨r',hr',g⟩:=L_stream_Write hj bt1 k N (L.length/64) v L (.bx j k) t2 rfl (.inl rfl)
  generalize hR:L.drop (64*(L.length/64))=R at*
  have hRl:R.length≤1073741824:=by rw[←hR,List.length_drop];omega
  generalize absN (L.length/64) v L=V at*
  have cr:=fun T=>F_digest_rounds256 T
  have hz:kz_ad83b20e.length=64:=rfl
  have stk:∀c bt tips,storeK tips S.length (S.set j (.mem c bt false)++[.mem kz_ad83b20e [] false]) 64 (.ptr S.length 0) (.agg (k256.map w32))=some (tips,stW S j c bt):=fun c bt tips=>by
   have e:S.length=(S.set j (.mem c bt false)).length:=by simp
   rw[e,storeK_dat_at0 (dat_agg (datL_w32s k256))]
   simp only[List.getElem?_cons_zero]
   rw[if_pos ⟨rfl,by rw[hz];omega⟩,show(AV.agg (k256.map w32)).cells=k256.map w32 from rfl,splice_all (by rw[hz];rfl)]
   rfl
  have tka:∀t c,takeRet t (.agg c)=(.agg c,t):=fun _ _=>rfl
  have l8R:loadK (stW S j (smC V (.sl r' 1 (bcl R)) N) bt1) .cell (.ptr j 8)=some (.sl r' 1 (bcl R)):=by rw[loadK_ptr (stW_get hj ..)];rfl
  obtain⟨lv',bt',v3,t3,q1,q2,q3⟩:∃lv' bt' v3 t3,appendK 1 t2 (stW S j (smC V (.sl r' 1 (bcl R)) N) bt1) .nils (.sl r' 1 (bcl R))=some (v3,t3,stW S j (smC V (.sl r' 1 (bcl R)) N) bt1)∧
   (∃t4,storeK t3 S.length (stW S j (smC V (.sl r' 1 (bcl R)) N) bt1) 1 (.ptr j 8) v3=some (t4,stW S j (smC V lv' N) bt'))∧LOk j lv' bt' R:=by
   by_cases hRe:R=[]
   ·subst hRe
    refine⟨.nils,bt1,.nils,t2,by simp[appendK,elemsOf,bcl],⟨t2, ?_⟩,.inl ⟨rfl,rfl⟩⟩
    unfold storeK
    simp only[stW_get hj]
    rw[if_pos ⟨rfl,rfl,by rw[smC_len];omega,.inr rfl⟩]
    show some (t2,(stW ..).set j (.mem (splice _ 8 [_]) bt1 false))=_
    rw[stW_set hj,smC_s8]
    rfl
   ·have hbn:¬bcl R=[]:=fun e=>hRe ((bcl_nil _).1 e)
    have hp:plainEs (bcl R)=true:=plainEs_bcl R
    refine⟨.sl (.bx j bt1.length) 1 (bcl R),bt1++[some R.length],.sl (.fr t2.length) 1 (bcl R),t2++[some R.length],by simp[appendK,elemsOf,hRe,hRl],⟨(t2++[some R.length]).set t2.length none, ?_⟩,.inr ⟨hRe,bt1.length,rfl,by simp⟩⟩
    unfold storeK
    simp only[stW_get hj]
    rw[if_pos ⟨rfl,rfl,by rw[smC_len];omega,.inr hp⟩]
    have hreg:regBox (t2++[some R.length]) j bt1 (.sl (.fr t2.length) 1 (bcl R))=(.sl (.bx j bt1.length) 1 (bcl R),(t2++[some R.length]).set t2.length none,bt1++[some R.length]):=by
     unfold regBox
     simp
    rw[hreg]
    show some (_,(stW ..).set j (.mem (splice _ 8 [_]) (bt1++[some R.length]) false))=_
    rw[stW_set hj,smC_s8]
  obtain⟨t4,q2⟩:=q2
  refine⟨lv',bt',q3, ?_⟩
  generalize k256.map w32=KK at*
  generalize kz_ad83b20e=Z at*
  simp[b0,evNilCheck,l9,hw,s9,l8,a1,a2,l8',ln,h64i,cr,tka,stk]
  rw[DC_keep_of l_digest_Stream_Write_0.eq_1]
  simp[g,evNilCheck,l8R,q1,q2,stW_take,resK,giveResL,retOf,plainRes]
theorem splice_two(l A B:List AV)(off:Nat)(h:off+(A.length+B.length)≤l.length):splice (splice l (off+A.length) B) off A=splice l off (A++B):=by
 have h1:=len_splice l (off+A.length) B (by omega)
 apply List.ext_getElem?
 intro k
 rw[get_splice _ _ _ (by omega),get_splice _ _ _ (by omega),get_splice _ _ _ (by rw[List.length_append];omega),List.length_append,List.getElem?_append]
 by_cases c1:off≤k∧k<off+A.length
 ·rw[if_pos c1,if_pos (by omega),if_pos (by omega)]
 ·rw[if_neg c1]
  by_cases c2:off+A.length≤k∧k<off+A.length+B.length
  ·rw[if_pos c2,if_pos (by omega),if_neg (by omega)]
   congr 1;omega
  ·rw[if_neg c2,if_neg (by omega)]
theorem splice_nil(l:List AV)(off:Nat)(h:off≤l.length):splice l off []=l:=by simp[splice]
theorem set_id{T:St}{j:Nat}{b:Box}(h:T[j]? =some b):T.set j b=T:=by
 apply List.ext_getElem?
 intro k
 rw[List.getElem?_set]
 by_cases e:j=k
 ·subst e
  rw[if_pos rfl,if_pos (List.getElem?_eq_some_iff.1 h).1,h]
 ·rw[if_neg e]
theorem L_put{j off m cap nb:Nat}{bt:List (Option Nat)}:∀(k n:Nat)(cs:List AV)(T:St)(tips:List (Option Nat)),T[j]? =some (.mem cs bt false)→off+m≤cs.length→k≤m→m<1000000→n<18446744073709551616→
 DC lib nk (.loop l_digest_put_0) ⟨[(0,.aref j off m cap 1),(1,.int .u64 (n:Int)),(4,.int .i64 ((k:Int) -1))],tips,nb⟩ T=
  some (.exit 0,⟨[],tips,nb⟩,T.set j (.mem (splice cs off (encB (beL k n))) bt false))
 |0,n,cs,T,tips,hT,hc,hk,hm,hn=>by
  have e:T.set j (.mem (splice cs off (encB (beL 0 n))) bt false)=T:=by
   rw[show encB (beL 0 n)=[]from rfl,splice_nil _ _ (by omega)]
   exact set_id hT
  rw[e,DC_loop',DC_of l_digest_put_0.eq_1]
  simp
 |k+1,n,cs,T,tips,hT,hc,hk,hm,hn=>by
  have hj:=(List.getElem?_eq_some_iff.1 hT).1
  have ix:ixLK 1 (.aref j off m cap 1) (.int .i64 (k:Int))=some (.ptr j (off+k)):=by
   have:k<m:=by omega
   have h0:¬(k:Int)<0:=by omega
   simp[ixLK,this,h0]
  have st:storeK tips nb T 1 (.ptr j (off+k)) (.int .u8 (IntKind.wrap .u8 (n:Int)))=some (tips,T.set j (.mem (splice cs (off+k) [cellB (UInt8.ofNat n)]) bt false)):=by
   rw[storeK_dat (dat_int .u8 _) hT,if_pos ⟨rfl,by omega⟩]
   have:=cv8 n
   simp only[cvIK,Option.some.injEq,AV.int.injEq,true_and]at this
   rw[this]
   rfl
  have sh:(n:Int).fdiv (2^min 8 IntKind.u64.bits)=(n:Int)/256:=Int.fdiv_eq_ediv_of_nonneg _ (by decide)
  have ih:=L_put (nb:=nb) (cap:=cap) k (n/256) (splice cs (off+k) [cellB (UInt8.ofNat n)]) (T.set j (.mem (splice cs (off+k) [cellB (UInt8.ofNat n)]) bt false)) tips (List.getElem?_set_self hj) (by rw[len_splice _ _ _ (by simp;omega)];exact hc) (by omega) hm (by omega)
  have e:splice (splice cs (off+k) [cellB (UInt8.ofNat n)]) off (encB (beL k (n/256)))=splice cs off (encB (beL (k+1) n)):=by
   have hl:(encB (beL k (n/256))).length=k:=by simp[beL_len]
   have:=splice_two cs (encB (beL k (n/256))) [cellB (UInt8.ofNat n)] off (by rw[hl];simp;omega)
   rw[hl]at this
   rw[this,show beL (k+1) n=beL k (n/256)++[UInt8.ofNat n]from rfl]
   simp[encB]
  rw[List.set_set,e]at ih
  have w1:IntKind.wrap .i64 ((k:Int) -1)=(k:Int) -1:=wrap64 (by omega)
  have c0:((k+1:Nat):Int) -1=k:=by omega
  have g0:(k:Int)≥0:=by omega
  rw[c0,DC_loop',DC_of l_digest_put_0.eq_1]
  simp at ih
  simp[ix,st,sh,w1]
  rw[DC_keep_of l_digest_put_0.eq_1]
  simp[ih]
theorem F_digest_put{j off m cap:Nat}{bt:List (Option Nat)}{cs:List AV}{T:St}(hT:T[j]? =some (.mem cs bt false))(hc:off+m≤cs.length)(hm:m<1000000)(n:Nat)(hn:n<18446744073709551616):
 DF lib nk 104 [.aref j off m cap 1,.int .u64 (n:Int)] T=some (.tup [],T.set j (.mem (splice cs off (encB (beL m n))) bt false)):=by
 have h:=L_put (nb:=T.length) (cap:=cap) m n cs T [] hT hc (Nat.le_refl _) hm hn
 have w1:IntKind.wrap .i64 ((m:Int) -1)=(m:Int) -1:=wrap64 (by omega)
 have tk:∀x,(T.set j x).take T.length=T.set j x:=fun x=>List.take_of_length_le (by simp)
 rw[run_digest_put,DC_of c_digest_put.eq_1]
 simp[lenLK,w1]
 rw[DC_keep_of l_digest_put_0.eq_1]
 simp[h,tk,resK,giveResL,retOf,plainRes]
theorem splice_tail(l A B:List AV)(h:A.length+B.length≤l.length):splice (splice l 0 A) A.length B=splice l 0 (A++B):=by
 have h1:=len_splice l 0 A (by omega)
 apply List.ext_getElem?
 intro k
 rw[get_splice _ _ _ (by omega),get_splice _ _ _ (by omega),get_splice _ _ _ (by rw[List.length_append];omega),List.length_append,List.getElem?_append]
 by_cases c1:A.length≤k∧k<A.length+B.length
 ·rw[if_pos c1,if_pos (by omega),if_neg (by omega),Nat.sub_zero]
 ·rw[if_neg c1]
  by_cases c2:k<A.length
  ·rw[if_pos (by omega),if_pos (by omega),if_pos (by omega)]
  ·rw[if_neg (by omega),if_neg (by omega)]
def sumW(v:V8)(i:Nat):Str:=(v.l.take i).flatMap fun x=>beL 4 x.toNat
theorem sumW_len(v:V8)(i:Nat)(h:i≤8):(sumW v i).length=4*i:=by
 have fl:∀l:List UInt32,(l.flatMap fun x=>beL 4 x.toNat).length=4*l.length:=by
  intro l
  induction l with
  |nil=>rfl
  |cons a r ih=>rw[List.flatMap_cons,List.length_append,ih,beL_len,List.length_cons];omega
 rw[sumW,fl,List.length_take,show v.l.length=8 from rfl,Nat.min_eq_left h]
theorem sumW_succ(v:V8)(i:Nat)(h:i<8):sumW v i++beL 4 (v.l.getD i 0).toNat=sumW v (i+1):=by
 unfold sumW
 rw[List.take_add_one,getD_get (show i<v.l.length from h)]
 simp
theorem L_stream_Sum{S:St}(V:V8)(a b c:Box)(tips:List (Option Nat)):∀d i,i+d=8→
 DC lib nk (.loop l_digest_Stream_Sum_0) ⟨[(2,.ptr S.length 0),(4,.ptr (S.length+3) 0),(35,.agg V.enc),(36,.int .i64 (i:Nat))],tips,S.length⟩ (S++[a,b,c,.mem (splice kz_812f4431 0 (encB (sumW V i))) [] false])=
  some (.exit 0,⟨[(2,.ptr S.length 0),(4,.ptr (S.length+3) 0)],tips,S.length⟩,S++[a,b,c,.mem (encB V.out) [] false]):=by
 intro d
 induction d with
 |zero=>
  intro i hi
  have e:i=8:=by omega
  subst e
  have e:sumW V 8=V.out:=rfl
  have hsp:splice kz_812f4431 0 (encB V.out)=encB V.out:=splice_all (by simp[V8.out_len])
  rw[e,hsp,DC_loop',DC_of l_digest_Stream_Sum_0.eq_1]
  simp
 |succ d ih=>
  intro i hi
  have h3:(i:Int)<8:=by omega
  have hwi:=wrap_succ (i:=i) (by omega)
  have hl:=sumW_len V i (by omega)
  have kl:kz_812f4431.length=32:=rfl
  have hs:(splice kz_812f4431 0 (encB (sumW V i))).length=32:=by rw[len_splice _ _ _ (by simp;omega)];exact kl
  have ix:ixGK 8 1 .cell (.agg V.enc) (.int .i64 (i:Int))=some (w32 (V.l.getD i 0)):=by
   have:i<8:=by omega
   have h0:¬(i:Int)<0:=by omega
   unfold ixGK
   simp only
   rw[if_neg h0,Int.toNat_natCast,if_pos this,Nat.mul_one,V8.enc_l]
   show(V.l.map w32)[i]? =_
   rw[List.getElem?_map,getD_get (show i<V.l.length from this)]
   rfl
  have x32:=x32_lt (V.l.getD i 0)
  have nxt:=ih (i+1) (by omega)
  rw[←sumW_succ V i (by omega)]at nxt
  have e2:=splice_tail kz_812f4431 (encB (sumW V i)) (encB (beL 4 (V.l.getD i 0).toNat)) (by simp[beL_len];omega)
  rw[show(encB (sumW V i)).length=4*i by simp[hl],show encB (sumW V i)++encB (beL 4 (V.l.getD i 0).toNat)=encB (sumW V i++beL 4 (V.l.getD i 0).toNat)by simp[encB]]at e2
  rw[←e2]at nxt
  generalize V.l.getD i 0=x at*
  have pt:=F_digest_put (T:=S++[a,b,c,.mem (splice kz_812f4431 0 (encB (sumW V i))) [] false]) (j:=S.length+3) (off:=4*i) (m:=4) (cap:=32 -4*i) (get_at S _ 3) (by omega) (by omega) x.toNat (by omega)
  rw[set_at S _ 3]at pt
  have cv:cvIK .u64 (w32 x)=some (.int .u64 (x.toNat:Int)):=by
   show some (AV.int .u64 (IntKind.wrap .u64 ((x.toNat:Nat):Int)))=_
   rw[wr64,Nat.mod_eq_of_lt (by omega)]
  obtain⟨A,hA⟩:∃A:Int,A=((4*i:Nat):Int):=⟨_,rfl⟩
  obtain⟨B,hB⟩:∃B:Int,B=((4*i+4:Nat):Int):=⟨_,rfl⟩
  have w4:IntKind.wrap .i64 (4*(i:Int))=A:=by rw[wrap64 (by omega)];omega
  have w44:IntKind.wrap .i64 (A+4)=B:=by rw[wrap64 (by omega)];omega
  have sl:slAK 32 1 (.ptr (S.length+3) 0) (some (.int .i64 A)) (some (.int .i64 B))=some (.aref (S.length+3) (4*i) 4 (32 -4*i) 1):=by
   have n32:¬32=4*i:=by omega
   have e4:4*i+4 -4*i=4:=by omega
   unfold slAK
   simp only[bound]
   rw[if_pos ⟨by omega,by omega⟩]
   simp only
   rw[if_pos ⟨by omega,by omega⟩]
   simp only[hA,hB,Int.toNat_natCast]
   rw[if_neg (by omega),if_neg n32,e4]
   simp
  simp only[List.set_cons_succ,List.set_cons_zero]at pt
  generalize splice kz_812f4431 0 (encB (sumW V i))=Z at*
  have ra:∀i o l c z,rawArg (.aref i o l c z)=some (.aref i o l c z):=fun _ _ _ _ _=>rfl
  have nr:∀i o l c z,norm (.aref i o l c z)=.aref i o l c z:=fun _ _ _ _ _=>rfl
  have ri:∀k n,rawArg (.int k n)=some (.int k n):=fun _ _=>rfl
  rw[DC_loop',DC_of l_digest_Stream_Sum_0.eq_1]
  simp at hwi nxt
  simp[h3,ix,ra,ri,nr, -cvIK,cv,w4,w44,sl,pt,tk_unit,hwi, -ixGK]
  rw[DC_keep_of l_digest_Stream_Sum_0.eq_1]
  simp[nxt]
theorem fillB_ne(n:Nat):fillB n≠[]:=by simp[fillB]
theorem F_stream_Sum{S:St}{j:Nat}{v:V8}{lv:AV}{n:Nat}{bt:List (Option Nat)}{l:Str}(hS:S[j]? =some (.mem (smC v lv (n:Int)) bt false))(hl:LOk j lv bt l)(hn:n≤1073741824)(h64:l.length<64):
 DF lib nk 123 [.ptr j 0] S=some (.agg (encB (sumB v l n)),S):=by
 have fl:=fillB_len n
 have fne:=fillB_ne n
 have fl72:(fillB n).length≤72:=by simp[fillB,beL_len];omega
 have hj:=(List.getElem?_eq_some_iff.1 hS).1
 have c0:=F_digest_New (S++[.mem kz_812f4431 [] false])
 rw[List.append_assoc,List.length_append,List.length_singleton]at c0
 have hS2:(S++[Box.mem kz_812f4431 [] false,Box.mem (smC h256 .nils 0) [] false])[j]? =some (.mem (smC v lv (n:Int)) bt false):=get_front _ hS
 have l0:loadK (S++[Box.mem kz_812f4431 [] false,Box.mem (smC h256 .nils 0) [] false]) (.agg 8) (.ptr j 0)=some (.agg v.enc):=by rw[loadK_ptr hS2];rfl
 have l8:loadK (S++[Box.mem kz_812f4431 [] false,Box.mem (smC h256 .nils 0) [] false]) .cell (.ptr j 8)=some lv:=by rw[loadK_ptr hS2];rfl
 have l9:loadK (S++[Box.mem kz_812f4431 [] false,Box.mem (smC h256 .nils 0) [] false]) .cell (.ptr j 9)=some (.int .i64 (n:Int)):=by rw[loadK_ptr hS2];rfl
 obtain⟨x,t1,t2,lv2,bt2,a1,a2,a3,a4⟩:∃x t1 t2 lv2 bt2,appendK 1 [] (S++[Box.mem kz_812f4431 [] false,Box.mem (smC h256 .nils 0) [] false]) .nils lv=some (x,t1,S++[Box.mem kz_812f4431 [] false,Box.mem (smC h256 .nils 0) [] false])∧
  fillXK kz_0ab0bd5a [(0,8,.agg v.enc),(8,1,x),(9,1,.int .i64 (n:Int))]=some (smC v x (n:Int))∧
  boxV 10 t1 (S++[Box.mem kz_812f4431 [] false,Box.mem (smC h256 .nils 0) [] false]) (.aggx (smC v x (n:Int)))=some (.ptr (S.length+2) 0,t2,S++[Box.mem kz_812f4431 [] false,Box.mem (smC h256 .nils 0) [] false,.mem (smC v lv2 (n:Int)) bt2 false])∧LOk (S.length+2) lv2 bt2 l:=by
  have e2:∀b:Box,S++[Box.mem kz_812f4431 [] false,Box.mem (smC h256 .nils 0) [] false]++[b]=S++[Box.mem kz_812f4431 [] false,Box.mem (smC h256 .nils 0) [] false,b]:=fun b=>by simp
  have el:(S++[Box.mem kz_812f4431 [] false,Box.mem (smC h256 .nils 0) [] false]).length=S.length+2:=by simp
  rcases hl with⟨rfl,rfl⟩|⟨h1,k,rfl,h2⟩
  ·refine⟨.nils,[],[],.nils,[],by simp[appendK,elemsOf],rfl, ?_,.inl ⟨rfl,rfl⟩⟩
   unfold boxV
   simp only
   rw[if_pos ⟨rfl,rfl⟩,el,e2]
   rfl
  ·have hbn:¬bcl l=[]:=fun e=>h1 ((bcl_nil _).1 e)
   have hle:l.length≤1073741824:=by omega
   refine⟨.sl (.fr 0) 1 (bcl l),[some l.length],[none],.sl (.bx (S.length+2) 0) 1 (bcl l),[some l.length],by simp[appendK,elemsOf,h1,hle],rfl, ?_,.inr ⟨h1,0,rfl,rfl⟩⟩
   have g:(S++[Box.mem kz_812f4431 [] false,Box.mem (smC h256 .nils 0) [] false,.mem ((smC v (.sl (.fr 0) 1 (bcl l)) (n:Int)).map strip) [] false])[S.length+2]? =some (.mem ((smC v (.sl (.fr 0) 1 (bcl l)) (n:Int)).map strip) [] false):=get_at S _ 2
   have rb:regBox [some l.length] (S.length+2) [] (.sl (.fr 0) 1 (bcl l))=(.sl (.bx (S.length+2) 0) 1 (bcl l),[none],[some l.length]):=by simp[regBox]
   have rc:regCells (S.length+2) 0 (smC v (.sl (.fr 0) 1 (bcl l)) (n:Int)) [some l.length] (S++[Box.mem kz_812f4431 [] false,Box.mem (smC h256 .nils 0) [] false,.mem ((smC v (.sl (.fr 0) 1 (bcl l)) (n:Int)).map strip) [] false])=
    ([none],S++[Box.mem kz_812f4431 [] false,Box.mem (smC h256 .nils 0) [] false,.mem (smC v (.sl (.bx (S.length+2) 0) 1 (bcl l)) (n:Int)) [some l.length] false]):=by
    have s:=set_at S [Box.mem kz_812f4431 [] false,Box.mem (smC h256 .nils 0) [] false,.mem ((smC v (.sl (.fr 0) 1 (bcl l)) (n:Int)).map strip) [] false] 2 (.mem (smC v (.sl (.bx (S.length+2) 0) 1 (bcl l)) (n:Int)) [some l.length] false)
    show(match(S++[Box.mem kz_812f4431 [] false,Box.mem (smC h256 .nils 0) [] false,.mem ((smC v (.sl (.fr 0) 1 (bcl l)) (n:Int)).map strip) [] false])[S.length+2]? with
     |some (.mem cs bt false)=>match regBox [some l.length] (S.length+2) bt (.sl (.fr 0) 1 (bcl l))with
      |(v',tips',bt')=>regCells (S.length+2) 9 [.int .i64 (n:Int)] tips' ((S++[Box.mem kz_812f4431 [] false,Box.mem (smC h256 .nils 0) [] false,.mem ((smC v (.sl (.fr 0) 1 (bcl l)) (n:Int)).map strip) [] false]).set (S.length+2) (.mem (splice cs 8 v'.cells) bt' false))
     |_=>([some l.length],_))=_
    rw[g]
    simp only[rb]
    exact congrArg (Prod.mk [none]) s
   unfold boxV
   simp only
   rw[if_pos ⟨rfl,rfl⟩,el,e2,rc]
 have l9':loadK (S++[Box.mem kz_812f4431 [] false,Box.mem (smC h256 .nils 0) [] false,.mem (smC v lv2 (n:Int)) bt2 false]) .cell (.ptr (S.length+2) 9)=some (.int .i64 (n:Int)):=by rw[loadK_ptr (get_at S _ 2)];rfl
 have fp:∀T,fillP [.int .i64 (n:Int),.int .i64 64,.int .i64 8] T=some (encBs (fillB n),T):=fun T=>by
  have e:encBs (fillB n)=.sl .none 1 ((fillB n).map fun c=>[.int .u8 c.toNat]):=by
   cases h:fillB n with
   |nil=>exact absurd h fne
   |cons a r=>rfl
  unfold fillP
  rw[e]
  simp only
  rw[if_pos ⟨by omega,by omega⟩,Int.toNat_natCast]
 obtain⟨lv3,bt3,b1,b2⟩:=F_stream_Write (S:=S++[Box.mem kz_812f4431 [] false,Box.mem (smC h256 .nils 0) [] false,.mem (smC v lv2 (n:Int)) bt2 false]) (get_at S _ 2) a4 (fillB n) (by omega) (by omega)
 rw[set_at S _ 2]at b2
 have e3:∀b c:Box,(S++[Box.mem kz_812f4431 [] false,Box.mem (smC h256 .nils 0) [] false,b]++[c])=S++[Box.mem kz_812f4431 [] false,Box.mem (smC h256 .nils 0) [] false,b,c]:=fun b c=>by simp
 simp only[List.set_cons_succ,List.set_cons_zero]at b2
 have sb:sumB v l n=(absN ((l++fillB n).length/64) v (l++fillB n)).out:=rfl
 rw[sb]
 generalize absN ((l++fillB n).length/64) v (l++fillB n)=V at*
 generalize((n+(fillB n).length:Nat):Int)=N at*
 have hL:∀b c,DC lib nk (.loop l_digest_Stream_Sum_0) ⟨[(2,.ptr S.length 0),(4,.ptr (S.length+3) 0),(35,.agg V.enc),(36,.int .i64 0)],t2,S.length⟩ (S++[Box.mem kz_812f4431 [] false,b,c,.mem kz_812f4431 [] false])=
  some (.exit 0,⟨[(2,.ptr S.length 0),(4,.ptr (S.length+3) 0)],t2,S.length⟩,S++[Box.mem kz_812f4431 [] false,b,c,.mem (encB V.out) [] false]):=fun b c=>by
  have:=L_stream_Sum (S:=S) V (.mem kz_812f4431 [] false) b c t2 8 0 rfl
  rwa [show splice kz_812f4431 0 (encB (sumW V 0))=kz_812f4431 from splice_nil _ 0 (by decide)]at this
 have ho:=V8.out_len V
 have dl:DatL (encB V.out):=datL_encB _
 have hlen:(encB V.out).length=32:=by simp[ho]
 generalize encB V.out=s at*
 have ld2:∀a b d,loadK (S++[a,b,.mem (smC V lv3 N) bt3 false,d]) (.agg 8) (.ptr (S.length+2) 0)=some (.agg V.enc):=fun a b d=>by rw[loadK_ptr (get_at S _ 2)];rfl
 have ld3:∀a b c,loadK (S++[a,b,c,.mem s [] false]) (.agg 32) (.ptr (S.length+3) 0)=some (.agg s):=fun a b c=>by
  rw[loadK_ptr (get_at S _ 3)]
  exact(partK_whole _ hlen).trans (by rw[dl.strips])
 have ld0:∀l,loadK (S++.mem s [] false::l) (.agg 32) (.ptr S.length 0)=some (.agg s):=fun l=>by
  rw[lT0 (S:=S) rfl]
  exact(partK_whole _ hlen).trans (by rw[dl.strips])
 have hsp:splice kz_812f4431 0 s=s:=splice_all (by rw[hlen];rfl)
 have rs:∀tips G,resK 123 tips [.agg s] S (S++G)=some (.agg s,S):=fun tips G=>by
  have nr:normr (.agg s)=.agg s:=by show AV.agg (s.map normc)=_;rw[dl.normcs]
  rw[resK_one,nr]
  simp[notTup,dl]
 have st:∀tips l,storeK tips S.length (S++.mem kz_812f4431 [] false::l) 32 (.ptr S.length 0) (.agg s)=some (tips,S++.mem s [] false::l):=fun tips l=>by
  have:=stTa0 (S:=S) rfl dl.plain (.mem kz_812f4431 [] false::l) 0 tips S.length 32
  simp only[List.getElem?_cons_zero,List.set_cons_zero,hsp]at this
  exact this.trans (if_pos ⟨hlen,by decide⟩)
 have tq:∀tips i o,takeRet tips (.ptr i o)=(.ptr i o,tips):=fun _ _ _=>rfl
 have tkB:∀tips,takeRet tips (encBs (fillB n))=(encBs (fillB n),tips):=fun tips=>by
  cases fillB n<;>rfl
 have b0:∀i o,evBinE .neq .ptr true (.ptr i o) .nilp=some (.bool true):=fun _ _=>rfl
 have dB:=datC_encBs (fillB n)
 have pf:nk.prim 100=some fillP:=rfl
 generalize encBs (fillB n)=F at*
 generalize hKZ:kz_0ab0bd5a=KZ at*
 generalize hKY:kz_812f4431=KY at*
 rw[run_digest_Stream_Sum,DC_of c_digest_Stream_Sum.eq_1,hKZ,hKY]
 simp at c0 b2
 have lb:∀lo hi K v ls n x g,ldV lo hi K v ls (.box n x) g=ls:=fun _ _ _ _ _ _ _ g=>by cases g with|none=>rfl|some b=>cases b<;>rfl
 simp[c0,tq,b0,evNilCheck,l0,l8,l9,a1,a2,a3,l9',lb,pf,fp,tkB,dB,dB.dat,b2,tk_unit,e3,ld2]
 rw[DC_keep_of l_digest_Stream_Sum_0.eq_1]
 simp[hL,ld3,st,ld0,rs]
theorem F_digest_Sum256(b:Str)(hb:b.length≤1000000000)(S:St):DF lib nk 96 [.sl .none 1 [[encBs b]]] S=some (.agg (encB (sum256 b)),S):=by
 have hs:=sum256_len b
 have c0:=F_digest_New (S++[.mem kz_812f4431 [] false])
 have hT:(S++[.mem kz_812f4431 [] false]++[.mem (smC h256 .nils 0) [] false])[S.length+1]? =some (.mem (smC h256 .nils ((0:Nat):Int)) [] false):=by
  rw[List.append_assoc];exact get_at S _ 1
 obtain⟨lv,bt,w1,w2⟩:=F_stream_Write (l:=[]) hT (.inl ⟨rfl,rfl⟩) b (by simp;omega) (by omega)
 have set1:∀x,(S++[Box.mem kz_812f4431 [] false]++[Box.mem (smC h256 .nils 0) [] false]).set (S.length+1) x=S++[Box.mem kz_812f4431 [] false,x]:=fun x=>by
  rw[List.append_assoc];exact set_at S _ 1 x
 rw[set1,List.nil_append,Nat.zero_add]at w2
 rw[List.nil_append]at w1
 have g1:(S++[.mem kz_812f4431 [] false,.mem (smC (absN (b.length/64) h256 b) lv (b.length:Int)) bt false])[S.length+1]? =some (.mem (smC (absN (b.length/64) h256 b) lv (b.length:Int)) bt false):=get_at S _ 1
 have sp:=F_stream_Sum g1 w1 (by omega) (by rw[List.length_drop];omega)
 rw[sumB_on,show sumB h256 b b.length=sum256 b from rfl]at sp
 have dl:DatL (encB (sum256 b)):=datL_encB _
 have hlen:(encB (sum256 b)).length=32:=by simp[hs]
 generalize smC (absN (b.length/64) h256 b) lv (b.length:Int)=C at*
 generalize hX:smC h256 .nils 0=X at*
 generalize encB (sum256 b)=s at*
 have st:=fun tips=>stTa0 (S:=S) rfl dl.plain [.mem kz_812f4431 [] false,.mem C bt false] 0 tips S.length 32
 have ld2:loadK (S++[.mem s [] false,.mem C bt false]) (.agg 32) (.ptr S.length 0)=some (.agg s):=by
  rw[lT0 (S:=S) rfl]
  exact(partK_whole _ hlen).trans (by rw[dl.strips])
 have hsp:splice kz_812f4431 0 s=s:=splice_all (by rw[hlen];rfl)
 have rs:∀tips G,resK 96 tips [.agg s] S (S++G)=some (.agg s,S):=fun tips G=>by
  have nr:normr (.agg s)=.agg s:=by show AV.agg (s.map normc)=_;rw[dl.normcs]
  rw[resK_one,nr]
  simp[notTup,dl]
 simp only[List.getElem?_cons_zero,List.set_cons_zero]at st
 simp only[hsp]at st
 have st:=fun tips=>(st tips).trans (if_pos ⟨hlen,by decide⟩)
 have ll:lenLK (.sl .none 1 [[encBs b]])=some (.int .i64 1):=rfl
 have ix:ixLK 1 (.sl .none 1 [[encBs b]]) (.int .i64 0)=some (.rptr .none [encBs b] 0):=rfl
 have ldr:∀T,loadK T .cell (.rptr .none [encBs b] 0)=some (encBs b):=fun _=>rfl
 have tq:∀tips i o,takeRet tips (.ptr i o)=(.ptr i o,tips):=fun _ _ _=>rfl
 have tka:takeRet [] (.agg s)=(.agg s,[]):=rfl
 have w11:IntKind.wrap .i64 1=1:=rfl
 have dB:=datC_encBs b
 generalize encBs b=B at*
 generalize hR:AV.sl .none 1 [[B]]=RB at*
 rw[run_digest_Sum256,DC_of c_digest_Sum256.eq_1]
 simp at c0 w2
 simp[c0,tq,ll]
 rw[DC_keep_of l_digest_Sum256_0.eq_1]
 simp
 rw[DC_loop',DC_of l_digest_Sum256_0.eq_1]
 simp[ix,ldr,dB,dB.dat,w2,tk_unit,w11]
 rw[DC_keep_of l_digest_Sum256_0.eq_1]
 simp
 rw[DC_loop',DC_of l_digest_Sum256_0.eq_1]
 simp[sp,tka,st,ld2,rs]
theorem F_entry_Name(b:Str)(hb:b.length≤1000000000)(S:St):DF lib nk 71 [encBs b] S=some (.agg (encB (sum256 b)),S):=by
 have hs:=sum256_len b
 have c1:=F_digest_Sum256 b hb (S++[.mem kz_812f4431 [] false])
 have dl:DatL (encB (sum256 b)):=datL_encB _
 have hlen:(encB (sum256 b)).length=32:=by simp[hs]
 generalize encB (sum256 b)=s at*
 have bo:fillEs 1 [[AV.nils]] [(0,encBs b)]=some [[encBs b]]:=by
  cases b with
  |nil=>rfl
  |cons a r=>rfl
 have dB:=datC_encBs b
 have nB:norm (.sl .exact 1 [[encBs b]])=.sl .none 1 [[encBs b]]:=rfl
 have gB:∀T,giveArg T (.sl .exact 1 [[encBs b]])=some (.sl .exact 1 [[encBs b]]):=fun _=>rfl
 have lB:∀T,lockOne T (.sl .exact 1 [[encBs b]])=T:=fun _=>rfl
 have uB:∀T T',unlockOne T T' (.sl .exact 1 [[encBs b]])=T':=fun _ _=>rfl
 generalize encBs b=B at*
 have st:=fun tips=>stTa0 (S:=S) rfl dl.plain [.mem kz_812f4431 [] false] 0 tips S.length 32
 have ld2:loadK (S++[.mem s [] false]) (.agg 32) (.ptr S.length 0)=some (.agg s):=by
  rw[lT0 (S:=S) rfl]
  exact(partK_whole _ hlen).trans (by rw[dl.strips])
 have hsp:splice kz_812f4431 0 s=s:=splice_all (by rw[hlen];rfl)
 have rs:∀tips G,resK 71 tips [.agg s] S (S++G)=some (.agg s,S):=fun tips G=>by
  have nr:normr (.agg s)=.agg s:=by show AV.agg (s.map normc)=_;rw[dl.normcs]
  rw[resK_one,nr]
  simp[notTup,dl]
 simp only[List.getElem?_cons_zero,List.set_cons_zero]at st
 simp only[hsp]at st
 have st:=fun tips=>(st tips).trans (if_pos ⟨hlen,by decide⟩)
 have tka:takeRet [] (.agg s)=(.agg s,[]):=rfl
 rw[run_entry_Name,DC_of c_entry_Name.eq_1]
 simp at c1
 simp[bo,nB,gB,lB,uB,lockAll,unlockAll,c1,tka,st,ld2,rs]
def d2N:N5:=⟨1859910466990425,932731440258426,1072319116312658,1815898335770999,633789495995903⟩
def d1N:N5:=⟨929955233495203,466365720129213,1662059464998953,2033849074728123,1442794654840575⟩
theorem d2_n:Fl.d2.n=d2N:=by kernel_rfl
theorem d1_n:Fl.d1.n=d1N:=by kernel_rfl
def cst(v:AV)(args:List AV)(S:St):Option (AV × St):=
 match args with
 |[]=>some (v,S)
 |_=>none
theorem cst_ok{v:AV}{g:FuncId}(h:∀S,DF lib nk g [] S=some (v,S))(args:List AV)(S:St)(r:AV × St)(e:cst v args S=some r):DF lib nk g (args.map norm) S=some r:=by
 unfold cst at e
 split at e
 ·rw[List.map_nil,h];exact e
 ·cases e
def powP(args:List AV)(S:St):Option (AV × St):=
 match args with
 |[u,.fn g [] []]=>if g=142 then(match decN u with
  |some x=>(x.rt).now fun z=>some (z.enc,S)
  |none=>none)else none
 |_=>none
theorem powP_ok(args:List AV)(S:St)(r:AV × St)(h:powP args S=some r):DF lib nk 110 (args.map norm) S=some r:=by
 unfold powP at h
 split at h
 ·split at h
  ·rename_i hg
   subst hg
   split at h
   ·rename_i x hx
    obtain⟨X,rfl,rfl⟩:=decN_some hx
    rw[N5.now_eq,←rt_n,fl_enc]at h
    have e:norm (AV.fn 142 [] [])=AV.fn 142 [] []:=rfl
    simp only[List.map_cons,List.map_nil,fl_no,e,F_rt]
    exact h
   ·cases h
  ·cases h
 ·cases h
def decB:List (List AV)→Option Str
 |[]=>some []
 |[.int .u8 (.ofNat n)]::r=>if Nat.ble n 255=true then(decB r).map fun l=>UInt8.ofNat n::l else none
 |_=>none
theorem decB_some:∀{es:List (List AV)}{b:Str},decB es=some b→es=b.map fun c=>[cellB c]
 |[],b,h=>by simp[decB]at h;subst h;rfl
 |e::r,b,h=>by
  unfold decB at h
  split at h
  ·rename_i hh;cases hh
  ·rename_i n r' hh
   cases hh
   split at h
   ·rename_i hn
    simp only[Option.map_eq_some_iff]at h
    obtain⟨l,hl,rfl⟩:=h
    rw[decB_some hl,List.map_cons]
    have:n<256:=by have:=Nat.le_of_ble_eq_true hn;omega
    have e:(UInt8.ofNat n).toNat=n:=by rw[UInt8.toNat_ofNat',Nat.mod_eq_of_lt this]
    simp only[cellB,e]
    rfl
   ·cases h
  ·cases h
def nameP(args:List AV)(S:St):Option (AV × St):=
 match args with
 |[.sl .none 1 es]=>match decB es with
  |some (c::b)=>if Nat.ble (b.length+1) 1000000000=true then some (.agg (encB (sum256 (c::b))),S)else none
  |_=>none
 |_=>none
theorem nameP_ok(args:List AV)(S:St)(r:AV × St)(h:nameP args S=some r):DF lib nk 71 (args.map norm) S=some r:=by
 unfold nameP at h
 split at h
 ·rename_i es
  split at h
  ·rename_i c b hb
   split at h
   ·rename_i hl
    have hl':=Nat.le_of_ble_eq_true hl
    have:=decB_some hb
    subst this
    have e:norm (AV.sl .none 1 ((c::b).map fun c=>[cellB c]))=encBs (c::b):=rfl
    simp only[List.map_cons (f:=norm),List.map_nil (f:=norm),e,F_entry_Name (c::b) (by simpa using hl')]
    exact h
   ·cases h
  ·cases h
 ·cases h
section
section
variable(S:St)(b0 b1:Box)(q a b c d e:UInt64)
theorem le0_5:DC lib nk (.loop l_field_Elem_least_0) ⟨[(1,.ptr S.length 0),(2,.ptr (S.length+1) 0),(3,w64 (shr64 (e+(shr64 (d+(shr64 (c+(shr64 (b+(shr64 (a+q) 51)) 51)) 51)) 51)) 51)),(11,.agg [w64 a,w64 b,w64 c,w64 d,w64 e]),(12,.int .i64 5)],[],S.length⟩ (S++[b0,b1])=some (.exit 0,⟨[(1,.ptr S.length 0),(2,.ptr (S.length+1) 0),(3,w64 (shr64 (e+(shr64 (d+(shr64 (c+(shr64 (b+(shr64 (a+q) 51)) 51)) 51)) 51)) 51))],[],S.length⟩,S++[b0,b1]):=by
 rw[DC_loop',DC_of l_field_Elem_least_0.eq_1]
 simp[splice, -AV.cells, -isVal, -binIK,bK_add,bK_sub,bK_lss,bK_geq,bK_eql, -UInt64.add_zero]
theorem le0_4:DC lib nk (.loop l_field_Elem_least_0) ⟨[(1,.ptr S.length 0),(2,.ptr (S.length+1) 0),(3,w64 (shr64 (d+(shr64 (c+(shr64 (b+(shr64 (a+q) 51)) 51)) 51)) 51)),(11,.agg [w64 a,w64 b,w64 c,w64 d,w64 e]),(12,.int .i64 4)],[],S.length⟩ (S++[b0,b1])=some (.exit 0,⟨[(1,.ptr S.length 0),(2,.ptr (S.length+1) 0),(3,w64 (shr64 (e+(shr64 (d+(shr64 (c+(shr64 (b+(shr64 (a+q) 51)) 51)) 51)) 51)) 51))],[],S.length⟩,S++[b0,b1]):=by
 rw[DC_loop',DC_of l_field_Elem_least_0.eq_1]
 simp[splice, -AV.cells, -isVal, -binIK,bK_add,bK_sub,bK_lss,bK_geq,bK_eql, -UInt64.add_zero]
 rw[DC_keep_of l_field_Elem_least_0.eq_1]
 simp[le0_5,splice, -AV.cells, -isVal, -binIK,bK_add,bK_sub,bK_lss,bK_geq,bK_eql, -UInt64.add_zero]
theorem le0_3:DC lib nk (.loop l_field_Elem_least_0) ⟨[(1,.ptr S.length 0),(2,.ptr (S.length+1) 0),(3,w64 (shr64 (c+(shr64 (b+(shr64 (a+q) 51)) 51)) 51)),(11,.agg [w64 a,w64 b,w64 c,w64 d,w64 e]),(12,.int .i64 3)],[],S.length⟩ (S++[b0,b1])=some (.exit 0,⟨[(1,.ptr S.length 0),(2,.ptr (S.length+1) 0),(3,w64 (shr64 (e+(shr64 (d+(shr64 (c+(shr64 (b+(shr64 (a+q) 51)) 51)) 51)) 51)) 51))],[],S.length⟩,S++[b0,b1]):=by
 rw[DC_loop',DC_of l_field_Elem_least_0.eq_1]
 simp[splice, -AV.cells, -isVal, -binIK,bK_add,bK_sub,bK_lss,bK_geq,bK_eql, -UInt64.add_zero]
 rw[DC_keep_of l_field_Elem_least_0.eq_1]
 simp[le0_4,splice, -AV.cells, -isVal, -binIK,bK_add,bK_sub,bK_lss,bK_geq,bK_eql, -UInt64.add_zero]
theorem le0_2:DC lib nk (.loop l_field_Elem_least_0) ⟨[(1,.ptr S.length 0),(2,.ptr (S.length+1) 0),(3,w64 (shr64 (b+(shr64 (a+q) 51)) 51)),(11,.agg [w64 a,w64 b,w64 c,w64 d,w64 e]),(12,.int .i64 2)],[],S.length⟩ (S++[b0,b1])=some (.exit 0,⟨[(1,.ptr S.length 0),(2,.ptr (S.length+1) 0),(3,w64 (shr64 (e+(shr64 (d+(shr64 (c+(shr64 (b+(shr64 (a+q) 51)) 51)) 51)) 51)) 51))],[],S.length⟩,S++[b0,b1]):=by
 rw[DC_loop',DC_of l_field_Elem_least_0.eq_1]
 simp[splice, -AV.cells, -isVal, -binIK,bK_add,bK_sub,bK_lss,bK_geq,bK_eql, -UInt64.add_zero]
 rw[DC_keep_of l_field_Elem_least_0.eq_1]
 simp[le0_3,splice, -AV.cells, -isVal, -binIK,bK_add,bK_sub,bK_lss,bK_geq,bK_eql, -UInt64.add_zero]
theorem le0_1:DC lib nk (.loop l_field_Elem_least_0) ⟨[(1,.ptr S.length 0),(2,.ptr (S.length+1) 0),(3,w64 (shr64 (a+q) 51)),(11,.agg [w64 a,w64 b,w64 c,w64 d,w64 e]),(12,.int .i64 1)],[],S.length⟩ (S++[b0,b1])=some (.exit 0,⟨[(1,.ptr S.length 0),(2,.ptr (S.length+1) 0),(3,w64 (shr64 (e+(shr64 (d+(shr64 (c+(shr64 (b+(shr64 (a+q) 51)) 51)) 51)) 51)) 51))],[],S.length⟩,S++[b0,b1]):=by
 rw[DC_loop',DC_of l_field_Elem_least_0.eq_1]
 simp[splice, -AV.cells, -isVal, -binIK,bK_add,bK_sub,bK_lss,bK_geq,bK_eql, -UInt64.add_zero]
 rw[DC_keep_of l_field_Elem_least_0.eq_1]
 simp[le0_2,splice, -AV.cells, -isVal, -binIK,bK_add,bK_sub,bK_lss,bK_geq,bK_eql, -UInt64.add_zero]
theorem le0_0:DC lib nk (.loop l_field_Elem_least_0) ⟨[(1,.ptr S.length 0),(2,.ptr (S.length+1) 0),(3,w64 q),(11,.agg [w64 a,w64 b,w64 c,w64 d,w64 e]),(12,.int .i64 0)],[],S.length⟩ (S++[b0,b1])=some (.exit 0,⟨[(1,.ptr S.length 0),(2,.ptr (S.length+1) 0),(3,w64 (shr64 (e+(shr64 (d+(shr64 (c+(shr64 (b+(shr64 (a+q) 51)) 51)) 51)) 51)) 51))],[],S.length⟩,S++[b0,b1]):=by
 rw[DC_loop',DC_of l_field_Elem_least_0.eq_1]
 simp[splice, -AV.cells, -isVal, -binIK,bK_add,bK_sub,bK_lss,bK_geq,bK_eql, -UInt64.add_zero]
 rw[DC_keep_of l_field_Elem_least_0.eq_1]
 simp[le0_1,splice, -AV.cells, -isVal, -binIK,bK_add,bK_sub,bK_lss,bK_geq,bK_eql, -UInt64.add_zero]
end
section
variable(S:St)(b1:Box)(a b c d e:UInt64)
theorem le1_4:DC lib nk (.loop l_field_Elem_least_1) ⟨[(1,.ptr S.length 0),(2,.ptr (S.length+1) 0),(6,.int .i64 4)],[],S.length⟩ (S++[.mem [w64 (a&&&2251799813685247),w64 ((b+shr64 a 51)&&&2251799813685247),w64 ((c+shr64 (b+shr64 a 51) 51)&&&2251799813685247),w64 ((d+shr64 (c+shr64 (b+shr64 a 51) 51) 51)&&&2251799813685247),w64 (e+shr64 (d+shr64 (c+shr64 (b+shr64 a 51) 51) 51) 51)] [] false,b1])=some (.exit 2,⟨[(1,.ptr S.length 0),(2,.ptr (S.length+1) 0)],[],S.length⟩,S++[.mem [w64 (a&&&2251799813685247),w64 ((b+shr64 a 51)&&&2251799813685247),w64 ((c+shr64 (b+shr64 a 51) 51)&&&2251799813685247),w64 ((d+shr64 (c+shr64 (b+shr64 a 51) 51) 51)&&&2251799813685247),w64 (e+shr64 (d+shr64 (c+shr64 (b+shr64 a 51) 51) 51) 51)] [] false,b1]):=by
 rw[DC_loop',DC_of l_field_Elem_least_1.eq_1]
 simp[splice, -AV.cells, -isVal, -binIK,bK_add,bK_sub,bK_lss,bK_geq,bK_eql, -UInt64.add_zero]
theorem le1_3:DC lib nk (.loop l_field_Elem_least_1) ⟨[(1,.ptr S.length 0),(2,.ptr (S.length+1) 0),(6,.int .i64 3)],[],S.length⟩ (S++[.mem [w64 (a&&&2251799813685247),w64 ((b+shr64 a 51)&&&2251799813685247),w64 ((c+shr64 (b+shr64 a 51) 51)&&&2251799813685247),w64 (d+shr64 (c+shr64 (b+shr64 a 51) 51) 51),w64 e] [] false,b1])=some (.exit 2,⟨[(1,.ptr S.length 0),(2,.ptr (S.length+1) 0)],[],S.length⟩,S++[.mem [w64 (a&&&2251799813685247),w64 ((b+shr64 a 51)&&&2251799813685247),w64 ((c+shr64 (b+shr64 a 51) 51)&&&2251799813685247),w64 ((d+shr64 (c+shr64 (b+shr64 a 51) 51) 51)&&&2251799813685247),w64 (e+shr64 (d+shr64 (c+shr64 (b+shr64 a 51) 51) 51) 51)] [] false,b1]):=by
 rw[DC_loop',DC_of l_field_Elem_least_1.eq_1]
 simp[splice, -AV.cells, -isVal, -binIK,bK_add,bK_sub,bK_lss,bK_geq,bK_eql, -UInt64.add_zero]
 rw[DC_keep_of l_field_Elem_least_1.eq_1]
 simp[le1_4,splice, -AV.cells, -isVal, -binIK,bK_add,bK_sub,bK_lss,bK_geq,bK_eql, -UInt64.add_zero]
theorem le1_2:DC lib nk (.loop l_field_Elem_least_1) ⟨[(1,.ptr S.length 0),(2,.ptr (S.length+1) 0),(6,.int .i64 2)],[],S.length⟩ (S++[.mem [w64 (a&&&2251799813685247),w64 ((b+shr64 a 51)&&&2251799813685247),w64 (c+shr64 (b+shr64 a 51) 51),w64 d,w64 e] [] false,b1])=some (.exit 2,⟨[(1,.ptr S.length 0),(2,.ptr (S.length+1) 0)],[],S.length⟩,S++[.mem [w64 (a&&&2251799813685247),w64 ((b+shr64 a 51)&&&2251799813685247),w64 ((c+shr64 (b+shr64 a 51) 51)&&&2251799813685247),w64 ((d+shr64 (c+shr64 (b+shr64 a 51) 51) 51)&&&2251799813685247),w64 (e+shr64 (d+shr64 (c+shr64 (b+shr64 a 51) 51) 51) 51)] [] false,b1]):=by
 rw[DC_loop',DC_of l_field_Elem_least_1.eq_1]
 simp[splice, -AV.cells, -isVal, -binIK,bK_add,bK_sub,bK_lss,bK_geq,bK_eql, -UInt64.add_zero]
 rw[DC_keep_of l_field_Elem_least_1.eq_1]
 simp[le1_3,splice, -AV.cells, -isVal, -binIK,bK_add,bK_sub,bK_lss,bK_geq,bK_eql, -UInt64.add_zero]
theorem le1_1:DC lib nk (.loop l_field_Elem_least_1) ⟨[(1,.ptr S.length 0),(2,.ptr (S.length+1) 0),(6,.int .i64 1)],[],S.length⟩ (S++[.mem [w64 (a&&&2251799813685247),w64 (b+shr64 a 51),w64 c,w64 d,w64 e] [] false,b1])=some (.exit 2,⟨[(1,.ptr S.length 0),(2,.ptr (S.length+1) 0)],[],S.length⟩,S++[.mem [w64 (a&&&2251799813685247),w64 ((b+shr64 a 51)&&&2251799813685247),w64 ((c+shr64 (b+shr64 a 51) 51)&&&2251799813685247),w64 ((d+shr64 (c+shr64 (b+shr64 a 51) 51) 51)&&&2251799813685247),w64 (e+shr64 (d+shr64 (c+shr64 (b+shr64 a 51) 51) 51) 51)] [] false,b1]):=by
 rw[DC_loop',DC_of l_field_Elem_least_1.eq_1]
 simp[splice, -AV.cells, -isVal, -binIK,bK_add,bK_sub,bK_lss,bK_geq,bK_eql, -UInt64.add_zero]
 rw[DC_keep_of l_field_Elem_least_1.eq_1]
 simp[le1_2,splice, -AV.cells, -isVal, -binIK,bK_add,bK_sub,bK_lss,bK_geq,bK_eql, -UInt64.add_zero]
theorem le1_0:DC lib nk (.loop l_field_Elem_least_1) ⟨[(1,.ptr S.length 0),(2,.ptr (S.length+1) 0),(6,.int .i64 0)],[],S.length⟩ (S++[.mem [w64 a,w64 b,w64 c,w64 d,w64 e] [] false,b1])=some (.exit 2,⟨[(1,.ptr S.length 0),(2,.ptr (S.length+1) 0)],[],S.length⟩,S++[.mem [w64 (a&&&2251799813685247),w64 ((b+shr64 a 51)&&&2251799813685247),w64 ((c+shr64 (b+shr64 a 51) 51)&&&2251799813685247),w64 ((d+shr64 (c+shr64 (b+shr64 a 51) 51) 51)&&&2251799813685247),w64 (e+shr64 (d+shr64 (c+shr64 (b+shr64 a 51) 51) 51) 51)] [] false,b1]):=by
 rw[DC_loop',DC_of l_field_Elem_least_1.eq_1]
 simp[splice, -AV.cells, -isVal, -binIK,bK_add,bK_sub,bK_lss,bK_geq,bK_eql, -UInt64.add_zero]
 rw[DC_keep_of l_field_Elem_least_1.eq_1]
 simp[le1_1,splice, -AV.cells, -isVal, -binIK,bK_add,bK_sub,bK_lss,bK_geq,bK_eql, -UInt64.add_zero]
end
def Fl.low(x:Fl)(q:UInt64):Fl:=
 let a:=x.a+19*q
 let b:=x.b+shr64 a 51
 let c:=x.c+shr64 b 51
 let d:=x.d+shr64 c 51
 let e:=x.e+shr64 d 51
 ⟨a&&&2251799813685247,b&&&2251799813685247,c&&&2251799813685247,d&&&2251799813685247,e&&&2251799813685247⟩
def Fl.over(x:Fl):UInt64:=shr64 (x.e+shr64 (x.d+shr64 (x.c+shr64 (x.b+shr64 (x.a+19) 51) 51) 51) 51) 51
def Fl.least(x:Fl):Fl:=x.carry.carry.low x.carry.carry.over
theorem F_least(x:Fl)(S:St):DF lib nk 116 [x.enc] S=some (x.least.enc,S):=by
 obtain⟨y,hy⟩:∃y,y=x.carry.carry:=⟨_,rfl⟩
 have c0:=F_carr x
 have c1:=F_carr x.carry
 unfold Fl.least
 rw[←hy]at c1⊢
 clear hy
 obtain⟨a,b,c,d,e⟩:=y
 have h0:=fun b0 b1=>le0_0 S b0 b1 19 a b c d e
 have z:w64 19=.int .u64 19:=rfl
 rw[z]at h0
 generalize hq:shr64 (e+shr64 (d+shr64 (c+shr64 (b+shr64 (a+19) 51) 51) 51) 51) 51=q at h0
 have ho:Fl.over ⟨a,b,c,d,e⟩=q:=hq
 rw[ho]
 have h1:=fun b1=>le1_0 S b1 (a+19*q) b c d e
 have p0:partK (.agg 5) (Fl.cs ⟨a,b,c,d,e⟩) 0=some (.agg [w64 a,w64 b,w64 c,w64 d,w64 e]):=rfl
 have g0:(Fl.cs ⟨a,b,c,d,e⟩)=[w64 a,w64 b,w64 c,w64 d,w64 e]:=rfl
 have e0:Fl.enc ⟨a,b,c,d,e⟩=.agg [w64 a,w64 b,w64 c,w64 d,w64 e]:=rfl
 rw[run_field_Elem_least,DC_of c_field_Elem_least.eq_1]
 simp[c0,c1, -AV.cells, -isVal, -binIK,bK_add,bK_sub,bK_lss,bK_geq,bK_eql, -UInt64.add_zero]
 rw[DC_keep_of l_field_Elem_least_0.eq_1]
 simp only[e0,g0]
 simp[h0,splice, -AV.cells, -isVal, -binIK,bK_add,bK_sub,bK_lss,bK_geq,bK_eql, -UInt64.add_zero]
 rw[DC_keep_of l_field_Elem_least_1.eq_1]
 simp[h1,splice, -AV.cells, -isVal, -binIK,bK_add,bK_sub,bK_lss,bK_geq,bK_eql, -UInt64.add_zero]
 rfl
end
section
theorem x8w_lt(x:UInt8):x.toNat<256:=x.toNat_lt
theorem wr8w(n:Nat):IntKind.wrap .u8 (n:Int)=((n %256:Nat):Int):=by
 show(n:Int)%256=_;omega
theorem c8_or(x y:UInt8):binIK .or (cellB x) (cellB y)=some (cellB (x|||y)):=by
 show some (AV.int .u8 (IntKind.wrap .u8 ((BitVec.ofInt 8 (x.toNat:Int)|||BitVec.ofInt 8 (y.toNat:Int)).toNat:Int)))=some (.int .u8 (((x|||y).toNat:Nat):Int))
 have:=x8w_lt (x|||y)
 rw[UInt8.toNat_or]at this
 rw[BitVec.toNat_or,bvo,bvo,Nat.mod_eq_of_lt (x8w_lt x),Nat.mod_eq_of_lt (x8w_lt y),wr8w,UInt8.toNat_or,Nat.mod_eq_of_lt this]
theorem c8_shl(x:UInt8)(n:Nat)(h:n≤8)(k:IntKind):binIK .shl (cellB x) (.int k (n:Int))=some (cellB (UInt8.ofNat (x.toNat<<<n))):=by
 show(if(n:Int)<0 then none else some (AV.int .u8 (IntKind.wrap .u8 ((x.toNat:Int)*2^(min (n:Int).toNat 8)))))=some (.int .u8 (((UInt8.ofNat (x.toNat<<<n)).toNat:Nat):Int))
 have e:((x.toNat:Int)*2^n)=((x.toNat<<<n:Nat):Int):=by rw[Nat.shiftLeft_eq];simp
 rw[if_neg (by omega),Int.toNat_natCast,Nat.min_eq_left h,e,wr8w,UInt8.toNat_ofNat']
theorem cv8w(z:UInt64):cvIK .u8 (w64 z)=some (cellB (UInt8.ofNat z.toNat)):=by
 show some (AV.int .u8 (IntKind.wrap .u8 (z.toNat:Int)))=some (.int .u8 (((UInt8.ofNat z.toNat).toNat:Nat):Int))
 rw[wr8w,UInt8.toNat_ofNat']
theorem w64_and1(x:UInt64):binIK .and (w64 x) (.int .u64 1)=some (w64 (x&&&1)):=w64_and x 1
def bstep(x:UInt64)(k bit:Nat)(bs:Str):Str:=bs.set (k/8) (bs.getD (k/8) 0|||UInt8.ofNat ((UInt8.ofNat (shr64 x bit&&&1).toNat).toNat<<<(k %8)))
def brow(x:UInt64)(i:Nat):Nat→Nat→Str→Str
 |0,_,bs=>bs
 |d+1,bit,bs=>brow x i d (bit+1) (bstep x (51*i+bit) bit bs)
theorem bstep_len(x:UInt64)(k bit:Nat)(bs:Str):(bstep x k bit bs).length=bs.length:=by simp[bstep]
theorem brow_len(x:UInt64)(i:Nat):∀d bit bs,(brow x i d bit bs).length=bs.length:=by
 intro d
 induction d with
 |zero=>intro bit bs;rfl
 |succ d ih=>intro bit bs;rw[brow,ih,bstep_len]
theorem encB_setw(bs:Str)(k:Nat)(c:UInt8)(h:k<bs.length):splice (encB bs) k [cellB c]=encB (bs.set k c):=by
 unfold splice encB
 apply List.ext_getElem?
 intro j
 simp only[List.length_singleton,List.getElem?_append,List.getElem?_take,List.length_append,List.length_take,List.length_map,List.getElem?_drop,List.getElem?_map,List.getElem?_set]
 rcases Nat.lt_trichotomy j k with h1|h1|h1
 ·simp[h1,show¬k=j by omega,show j<k+1 by omega,show j<min k bs.length by omega,show j<min k bs.length+1 by omega]
 ·subst h1;simp[h,show min j bs.length=j by omega]
 ·simp[show¬k=j by omega,show¬j<min k bs.length+1 by omega,show k+1+(j -(min k bs.length+1))=j by omega]
theorem encB_getw(bs:Str)(k:Nat)(h:k<bs.length):(encB bs)[k]? =some (cellB (bs.getD k 0)):=by
 unfold encB
 rw[List.getElem?_map,List.getD_eq_getElem?_getD]
 simp[h]
@[simp]theorem dat_cellB(c:UInt8):Dat (cellB c):=(datC_int .u8 _).dat
theorem L_brow(x:UInt64)(i:Nat)(hi:i≤4)(X:AV)(S:St)(b0 b1:Box):∀(d bit:Nat)(bs:Str),bit+d=51→bs.length=32→
 DC lib nk (.loop l_field_Elem_Bytes_0) ⟨[(2,.ptr (S.length+1) 0),(3,.ptr (S.length+2) 0),(4,.int .i64 (i:Int)),(5,w64 x),(6,.int .i64 (bit:Int)),(10,X),(11,.int .i64 (i:Int))],[],S.length⟩ (S++[b0,b1,.mem (encB bs) [] false])=
  some (.exit 2,⟨[(2,.ptr (S.length+1) 0),(3,.ptr (S.length+2) 0),(10,X),(11,.int .i64 (i:Int))],[],S.length⟩,S++[b0,b1,.mem (encB (brow x i d bit bs)) [] false]):=by
 intro d
 induction d with
 |zero=>
  intro bit bs hb hl
  have e:bit=51:=by omega
  subst e
  rw[DC_loop',DC_of l_field_Elem_Bytes_0.eq_1]
  simp[brow, -binIK,bK_lss]
 |succ d ih=>
  intro bit bs hb hl
  have hlt:(bit:Int)<51:=by omega
  have n1:=ih (bit+1) (bstep x (51*i+bit) bit bs) (by omega) (by rw[bstep_len,hl])
  have hw:IntKind.wrap .i64 ((bit:Int)+1)=((bit+1:Nat):Int):=wrap_succ (by omega)
  obtain⟨k,hk⟩:∃k,k=51*i+bit:=⟨_,rfl⟩
  have m1:binIK .mul (.int .i64 51) (.int .i64 (i:Int))=some (.int .i64 ((51*i:Nat):Int)):=by
   show some (AV.int .i64 (IntKind.wrap .i64 (51*(i:Int))))=_
   rw[wrap64 (by omega)];simp
  have a1:IntKind.wrap .i64 (((51*i:Nat):Int)+(bit:Int))=(k:Int):=by rw[wrap64 (by omega)];omega
  have g:binIK .quo (.int .i64 (k:Int)) (.int .i64 8)=some (.int .i64 ((k/8:Nat):Int)):=by
   show(if(8:Int)=0 then none else some (AV.int .i64 (IntKind.wrap .i64 ((k:Int).tdiv 8))))=_
   rw[if_neg (by decide),Int.tdiv_eq_ediv_of_nonneg (by omega),wrap64 (by omega)]
   rfl
  have rm:binIK .rem (.int .i64 (k:Int)) (.int .i64 8)=some (.int .i64 ((k %8:Nat):Int)):=by
   show(if(8:Int)=0 then none else some (AV.int .i64 ((k:Int).tmod 8)))=_
   rw[if_neg (by decide),Int.tmod_eq_emod_of_nonneg (by omega)]
   rfl
  have sh:binIK .shr (w64 x) (.int .i64 (bit:Int))=some (w64 (shr64 x bit)):=w64_shr x bit (by omega) .i64
  have s8:∀c,binIK .shl (cellB c) (.int .i64 ((k %8:Nat):Int))=some (cellB (UInt8.ofNat (c.toNat<<<(k %8)))):=fun c=>c8_shl c (k %8) (by omega) .i64
  have ix:ixAK 32 1 (.ptr (S.length+2) 0) (.int .i64 ((k/8:Nat):Int))=some (.ptr (S.length+2) (k/8)):=by
   have h0:¬((k/8:Nat):Int)<0:=by omega
   have h1:k/8<32:=by omega
   generalize k/8=q at*
   simp[ixAK,h1]
  have hk8:k/8<bs.length:=by omega
  have ld:loadK (S++[b0,b1,.mem (encB bs) [] false]) .cell (.ptr (S.length+2) (k/8))=some (cellB (bs.getD (k/8) 0)):=by
   rw[loadK_ptr (get_at S _ 2),partK_cell,encB_getw bs _ hk8]
  have st:∀c,storeK [] S.length (S++[b0,b1,.mem (encB bs) [] false]) 1 (.ptr (S.length+2) (k/8)) (cellB c)=some ([],S++[b0,b1,.mem (encB (bs.set (k/8) c)) [] false]):=by
   intro c
   rw[storeK_dat (dat_cellB c) (get_at S _ 2),if_pos ⟨rfl,by rw[encB_length];omega⟩,show(cellB c).cells=[cellB c]from rfl,encB_setw bs _ c hk8]
   simp
  rw[brow]
  rw[←hk]at n1⊢
  have hb1:bstep x k bit bs=bs.set (k/8) (bs.getD (k/8) 0|||UInt8.ofNat ((UInt8.ofNat (shr64 x bit&&&1).toNat).toNat<<<(k %8))):=rfl
  rw[hb1]at n1⊢
  generalize((51*i:Nat):Int)=A at m1 a1
  generalize((k/8:Nat):Int)=K at g ix
  generalize((k %8:Nat):Int)=M at rm s8
  generalize bs.getD (k/8) 0=y at*
  rw[DC_loop',DC_of l_field_Elem_Bytes_0.eq_1]
  simp at n1
  simp[-binIK, -cvIK, -ixAK,bK_lss,bK_add,hlt,m1,a1,g,rm,sh,s8,ix,ld,st,cv8w,w64_and1,c8_or]
  rw[DC_keep_of l_field_Elem_Bytes_0.eq_1]
  simp[-binIK,bK_lss,bK_add,hw,n1]
def Fl.rows(x:Fl):Str:=brow x.e 4 51 0 (brow x.d 3 51 0 (brow x.c 2 51 0 (brow x.b 1 51 0 (brow x.a 0 51 0 (List.replicate 32 0)))))
def Fl.bytes(x:Fl):Str:=x.least.rows
section
variable(S:St)(b0 b1:Box)(a b c d e:UInt64)
theorem by_5(bs:Str)(hl:bs.length=32):DC lib nk (.loop l_field_Elem_Bytes_1) ⟨[(2,.ptr (S.length+1) 0),(3,.ptr (S.length+2) 0),(10,.agg [w64 a,w64 b,w64 c,w64 d,w64 e]),(11,.int .i64 5)],[],S.length⟩ (S++[b0,b1,.mem (encB bs) [] false])=some (.exit 0,⟨[(2,.ptr (S.length+1) 0),(3,.ptr (S.length+2) 0)],[],S.length⟩,S++[b0,b1,.mem (encB (bs)) [] false]):=by
 rw[DC_loop',DC_of l_field_Elem_Bytes_1.eq_1]
 simp[-AV.cells, -isVal, -binIK,bK_add,bK_sub,bK_lss,bK_geq,bK_eql]
theorem by_4(bs:Str)(hl:bs.length=32):DC lib nk (.loop l_field_Elem_Bytes_1) ⟨[(2,.ptr (S.length+1) 0),(3,.ptr (S.length+2) 0),(10,.agg [w64 a,w64 b,w64 c,w64 d,w64 e]),(11,.int .i64 4)],[],S.length⟩ (S++[b0,b1,.mem (encB bs) [] false])=some (.exit 0,⟨[(2,.ptr (S.length+1) 0),(3,.ptr (S.length+2) 0)],[],S.length⟩,S++[b0,b1,.mem (encB (brow e 4 51 0 (bs))) [] false]):=by
 have h:=L_brow e 4 (by omega) (.agg [w64 a,w64 b,w64 c,w64 d,w64 e]) S b0 b1 51 0 bs (by omega) hl
 have n:=by_5 S b0 b1 a b c d e (brow e 4 51 0 bs) (by rw[brow_len,hl])
 simp at h
 rw[DC_loop',DC_of l_field_Elem_Bytes_1.eq_1]
 simp[-AV.cells, -isVal, -binIK,bK_add,bK_sub,bK_lss,bK_geq,bK_eql]
 rw[DC_keep_of l_field_Elem_Bytes_0.eq_1]
 simp[h, -AV.cells, -isVal, -binIK,bK_add,bK_sub,bK_lss,bK_geq,bK_eql]
 rw[DC_keep_of l_field_Elem_Bytes_1.eq_1]
 simp[n, -AV.cells, -isVal, -binIK,bK_add,bK_sub,bK_lss,bK_geq,bK_eql]
theorem by_3(bs:Str)(hl:bs.length=32):DC lib nk (.loop l_field_Elem_Bytes_1) ⟨[(2,.ptr (S.length+1) 0),(3,.ptr (S.length+2) 0),(10,.agg [w64 a,w64 b,w64 c,w64 d,w64 e]),(11,.int .i64 3)],[],S.length⟩ (S++[b0,b1,.mem (encB bs) [] false])=some (.exit 0,⟨[(2,.ptr (S.length+1) 0),(3,.ptr (S.length+2) 0)],[],S.length⟩,S++[b0,b1,.mem (encB (brow e 4 51 0 (brow d 3 51 0 (bs)))) [] false]):=by
 have h:=L_brow d 3 (by omega) (.agg [w64 a,w64 b,w64 c,w64 d,w64 e]) S b0 b1 51 0 bs (by omega) hl
 have n:=by_4 S b0 b1 a b c d e (brow d 3 51 0 bs) (by rw[brow_len,hl])
 simp at h
 rw[DC_loop',DC_of l_field_Elem_Bytes_1.eq_1]
 simp[-AV.cells, -isVal, -binIK,bK_add,bK_sub,bK_lss,bK_geq,bK_eql]
 rw[DC_keep_of l_field_Elem_Bytes_0.eq_1]
 simp[h, -AV.cells, -isVal, -binIK,bK_add,bK_sub,bK_lss,bK_geq,bK_eql]
 rw[DC_keep_of l_field_Elem_Bytes_1.eq_1]
 simp[n, -AV.cells, -isVal, -binIK,bK_add,bK_sub,bK_lss,bK_geq,bK_eql]
theorem by_2(bs:Str)(hl:bs.length=32):DC lib nk (.loop l_field_Elem_Bytes_1) ⟨[(2,.ptr (S.length+1) 0),(3,.ptr (S.length+2) 0),(10,.agg [w64 a,w64 b,w64 c,w64 d,w64 e]),(11,.int .i64 2)],[],S.length⟩ (S++[b0,b1,.mem (encB bs) [] false])=some (.exit 0,⟨[(2,.ptr (S.length+1) 0),(3,.ptr (S.length+2) 0)],[],S.length⟩,S++[b0,b1,.mem (encB (brow e 4 51 0 (brow d 3 51 0 (brow c 2 51 0 (bs))))) [] false]):=by
 have h:=L_brow c 2 (by omega) (.agg [w64 a,w64 b,w64 c,w64 d,w64 e]) S b0 b1 51 0 bs (by omega) hl
 have n:=by_3 S b0 b1 a b c d e (brow c 2 51 0 bs) (by rw[brow_len,hl])
 simp at h
 rw[DC_loop',DC_of l_field_Elem_Bytes_1.eq_1]
 simp[-AV.cells, -isVal, -binIK,bK_add,bK_sub,bK_lss,bK_geq,bK_eql]
 rw[DC_keep_of l_field_Elem_Bytes_0.eq_1]
 simp[h, -AV.cells, -isVal, -binIK,bK_add,bK_sub,bK_lss,bK_geq,bK_eql]
 rw[DC_keep_of l_field_Elem_Bytes_1.eq_1]
 simp[n, -AV.cells, -isVal, -binIK,bK_add,bK_sub,bK_lss,bK_geq,bK_eql]
theorem by_1(bs:Str)(hl:bs.length=32):DC lib nk (.loop l_field_Elem_Bytes_1) ⟨[(2,.ptr (S.length+1) 0),(3,.ptr (S.length+2) 0),(10,.agg [w64 a,w64 b,w64 c,w64 d,w64 e]),(11,.int .i64 1)],[],S.length⟩ (S++[b0,b1,.mem (encB bs) [] false])=some (.exit 0,⟨[(2,.ptr (S.length+1) 0),(3,.ptr (S.length+2) 0)],[],S.length⟩,S++[b0,b1,.mem (encB (brow e 4 51 0 (brow d 3 51 0 (brow c 2 51 0 (brow b 1 51 0 (bs)))))) [] false]):=by
 have h:=L_brow b 1 (by omega) (.agg [w64 a,w64 b,w64 c,w64 d,w64 e]) S b0 b1 51 0 bs (by omega) hl
 have n:=by_2 S b0 b1 a b c d e (brow b 1 51 0 bs) (by rw[brow_len,hl])
 simp at h
 rw[DC_loop',DC_of l_field_Elem_Bytes_1.eq_1]
 simp[-AV.cells, -isVal, -binIK,bK_add,bK_sub,bK_lss,bK_geq,bK_eql]
 rw[DC_keep_of l_field_Elem_Bytes_0.eq_1]
 simp[h, -AV.cells, -isVal, -binIK,bK_add,bK_sub,bK_lss,bK_geq,bK_eql]
 rw[DC_keep_of l_field_Elem_Bytes_1.eq_1]
 simp[n, -AV.cells, -isVal, -binIK,bK_add,bK_sub,bK_lss,bK_geq,bK_eql]
theorem by_0(bs:Str)(hl:bs.length=32):DC lib nk (.loop l_field_Elem_Bytes_1) ⟨[(2,.ptr (S.length+1) 0),(3,.ptr (S.length+2) 0),(10,.agg [w64 a,w64 b,w64 c,w64 d,w64 e]),(11,.int .i64 0)],[],S.length⟩ (S++[b0,b1,.mem (encB bs) [] false])=some (.exit 0,⟨[(2,.ptr (S.length+1) 0),(3,.ptr (S.length+2) 0)],[],S.length⟩,S++[b0,b1,.mem (encB (brow e 4 51 0 (brow d 3 51 0 (brow c 2 51 0 (brow b 1 51 0 (brow a 0 51 0 (bs))))))) [] false]):=by
 have h:=L_brow a 0 (by omega) (.agg [w64 a,w64 b,w64 c,w64 d,w64 e]) S b0 b1 51 0 bs (by omega) hl
 have n:=by_1 S b0 b1 a b c d e (brow a 0 51 0 bs) (by rw[brow_len,hl])
 simp at h
 rw[DC_loop',DC_of l_field_Elem_Bytes_1.eq_1]
 simp[-AV.cells, -isVal, -binIK,bK_add,bK_sub,bK_lss,bK_geq,bK_eql]
 rw[DC_keep_of l_field_Elem_Bytes_0.eq_1]
 simp[h, -AV.cells, -isVal, -binIK,bK_add,bK_sub,bK_lss,bK_geq,bK_eql]
 rw[DC_keep_of l_field_Elem_Bytes_1.eq_1]
 simp[n, -AV.cells, -isVal, -binIK,bK_add,bK_sub,bK_lss,bK_geq,bK_eql]
end
theorem F_Bytes(x:Fl)(S:St):DF lib nk 87 [x.enc] S=some (.agg (encB x.bytes),S):=by
 have hz:encB (List.replicate 32 0)=kz_812f4431:=rfl
 have hl:x.bytes.length=32:=by unfold Fl.bytes Fl.rows;simp only[brow_len];rfl
 have h:=fun b0 b1=>by_0 S b0 b1 x.least.a x.least.b x.least.c x.least.d x.least.e (List.replicate 32 0) rfl
 have hr:brow x.least.e 4 51 0 (brow x.least.d 3 51 0 (brow x.least.c 2 51 0 (brow x.least.b 1 51 0 (brow x.least.a 0 51 0 (List.replicate 32 0)))))=x.bytes:=rfl
 have e0:x.least.enc=.agg [w64 x.least.a,w64 x.least.b,w64 x.least.c,w64 x.least.d,w64 x.least.e]:=rfl
 have fl:fldK (.agg 5) 0 x.least.enc=some x.least.enc:=rfl
 have p:=partB x.bytes hl
 have sp:splice kz_812f4431 0 (encB x.bytes)=encB x.bytes:=by
  unfold splice
  rw[List.take_zero,List.nil_append,encB_length,hl]
  show encB x.bytes++List.drop 32 _=_
  rw[List.drop_eq_nil_of_le (by decide),List.append_nil]
 rw[hr,hz]at h
 simp only[kz_812f4431]at h sp
 generalize hb:x.bytes=bs at*
 rw[run_field_Elem_Bytes,DC_of c_field_Elem_Bytes.eq_1]
 simp[F_least,fl, -fldK, -AV.cells, -isVal, -binIK,bK_add,bK_sub,bK_lss,bK_geq,bK_eql]
 rw[DC_keep_of l_field_Elem_Bytes_1.eq_1]
 simp only[e0]
 simp[h,p,hl,sp, -AV.cells, -isVal, -binIK,bK_add,bK_sub,bK_lss,bK_geq,bK_eql]
end
def rotr64(x:UInt64)(n:Nat):UInt64:=shl64 x (64 -n)|||shr64 x n
theorem F_bits_RotateLeft64(x:UInt64)(n:Nat)(h1:1≤n)(h2:n<64)(S:St):DF lib nk 141 [w64 x,.int .i64 (-(n:Int))] S=some (w64 (rotr64 x n),S):=by
 have wn:IntKind.wrap .u64 (-(n:Int))=((18446744073709551616 -n:Nat):Int):=by
  show(-(n:Int))%18446744073709551616=_;omega
 have an:IntKind.wrap .u64 ((BitVec.ofInt 64 ((18446744073709551616 -n:Nat):Int)&&&BitVec.ofInt 64 (63:Int)).toNat:Int)=((64 -n:Nat):Int):=by
  have e31:BitVec.ofInt 64 (63:Int)=BitVec.ofInt 64 ((63:Nat):Int):=rfl
  rw[e31,BitVec.toNat_and,bvo,bvo,Nat.mod_eq_of_lt (by omega),Nat.mod_eq_of_lt (by omega:63<2^64),show(63:Nat)=2^6 -1 from rfl,Nat.and_two_pow_sub_one_eq_mod,wr64]
  omega
 have sn:IntKind.wrap .u64 (64 -((64 -n:Nat):Int))=(n:Int):=by
  show(64 -((64 -n:Nat):Int))%18446744073709551616=_;omega
 have b1:binIK .and (.int .u64 ((18446744073709551616 -n:Nat):Int)) (.int .u64 63)=some (.int .u64 ((64 -n:Nat):Int)):=congrArg (fun z=>some (AV.int .u64 z)) an
 have b2:binIK .sub (.int .u64 64) (.int .u64 ((64 -n:Nat):Int))=some (.int .u64 (n:Int)):=congrArg (fun z=>some (AV.int .u64 z)) sn
 have b3:=w64_shl x (64 -n) (by omega) .u64
 have b4:=w64_shr x n (by omega) .u64
 have cv:cvIK .u64 (.int .i64 (-(n:Int)))=some (.int .u64 ((18446744073709551616 -n:Nat):Int)):=congrArg (fun z=>some (AV.int .u64 z)) wn
 rw[run_math_bits_RotateLeft64,DC_of c_math_bits_RotateLeft64.eq_1]
 generalize((18446744073709551616 -n:Nat):Int)=A at*
 generalize hB:((64 -n:Nat):Int)=B at*
 simp[-binIK, -cvIK,cv,b1,b2,b3,b4,rotr64]
theorem F_digest_turnL(x:UInt64)(n:Nat)(h1:1≤n)(h2:n<64)(S:St):DF lib nk 128 [w64 x,.int .i64 (n:Int)] S=some (w64 (rotr64 x n),S):=by
 have c1:=F_bits_RotateLeft64 x n h1 h2 S
 have ng:evUn .neg (.int .i64 (n:Int))=some (.int .i64 (-(n:Int))):=by
  show some (AV.int .i64 (IntKind.wrap .i64 (0 -(n:Int))))=_
  rw[wrap64 (by omega),Int.zero_sub]
 rw[run_digest_turnL,DC_of c_digest_turnL.eq_1]
 simp[ng,c1]
theorem rotr64_nat(x:UInt64)(n:Nat):(rotr64 x n).toNat=(x.toNat<<<(64 -n))%18446744073709551616|||(x.toNat>>>n):=by
 unfold rotr64 shl64 shr64
 rw[UInt64.toNat_or,UInt64.toNat_ofNat',UInt64.toNat_ofNat',Nat.mod_eq_of_lt (Nat.lt_of_le_of_lt (Nat.shiftRight_le _ _) (x64_lt x))]
def turnP(args:List AV)(S:St):Option (AV × St):=
 match args with
 |[.int .u64 (.ofNat x),.int .i64 (.ofNat n)]=>if(Nat.blt x 18446744073709551616&&Nat.blt 0 n&&Nat.blt n 64)=true then nst ((x<<<(64 -n))%18446744073709551616|||(x>>>n)) fun m=>some (.int .u64 (.ofNat m),S)else none
 |_=>none
theorem turnP_ok(args:List AV)(S:St)(r:AV × St)(h:turnP args S=some r):DF lib nk 128 (args.map norm) S=some r:=by
 unfold turnP at h
 split at h
 ·rename_i x n
  split at h
  ·rename_i hc
   simp only[Bool.and_eq_true,Nat.blt_eq]at hc
   rw[nst_eq]at h
   have:=F_digest_turnL (UInt64.ofNat x) n hc.1.2 hc.2 S
   have ex:(UInt64.ofNat x).toNat=x:=by rw[UInt64.toNat_ofNat',Nat.mod_eq_of_lt hc.1.1]
   unfold w64 at this
   rw[rotr64_nat,ex]at this
   exact this.trans h
  ·cases h
 ·cases h
theorem cells_of{l:List AV}{b:Str}(h:decB (l.map fun v=>[v])=some b):l=encB b:=by
 have:=decB_some h
 have e:=congrArg List.flatten this
 simp only[List.flatten_eq_flatMap,List.flatMap_map]at e
 have f1:∀l:List AV,l.flatMap (fun v=>id [v])=l:=fun l=>by induction l with
  |nil=>rfl
  |cons v l ih=>rw[List.flatMap_cons,ih];rfl
 have f2:∀b:Str,b.flatMap (fun c=>id [cellB c])=encB b:=fun b=>by induction b with
  |nil=>rfl
  |cons v l ih=>rw[List.flatMap_cons,ih];rfl
 rw[f1,f2]at e
 exact e
theorem norm_bytes(b:Str):norm (.agg (encB b))=.agg (encB b):=by
 show AV.agg ((encB b).map normc)=_
 congr 1
 unfold encB
 rw[List.map_map]
 rfl
def ofP(args:List AV)(S:St):Option (AV × St):=
 match args with
 |[.agg l]=>match decB (l.map fun v=>[v])with
  |some b=>if Nat.beq b.length 32=true then((Fl.of b).n).now fun z=>some (z.enc,S)else none
  |none=>none
 |_=>none
theorem ofP_ok(args:List AV)(S:St)(r:AV × St)(h:ofP args S=some r):DF lib nk 80 (args.map norm) S=some r:=by
 unfold ofP at h
 split at h
 ·split at h
  ·rename_i l b hb
   split at h
   ·rename_i hl
    have hl':b.length=32:=Nat.eq_of_beq_eq_true hl
    have:=cells_of hb
    subst this
    rw[N5.now_eq,fl_enc]at h
    simp only[List.map_cons,List.map_nil,norm_bytes,F_Of b hl']
    exact h
   ·cases h
  ·cases h
 ·cases h
def N5.fl(x:N5):Fl:=⟨UInt64.ofNat x.a,UInt64.ofNat x.b,UInt64.ofNat x.c,UInt64.ofNat x.d,UInt64.ofNat x.e⟩
theorem fl_n(x:Fl):x.n.fl=x:=by
 unfold Fl.n N5.fl
 simp
def leastP(args:List AV)(S:St):Option (AV × St):=
 match args with
 |[u]=>match decN u with
  |some x=>((x.fl).least.n).now fun z=>some (z.enc,S)
  |none=>none
 |_=>none
theorem leastP_ok(args:List AV)(S:St)(r:AV × St)(h:leastP args S=some r):DF lib nk 116 (args.map norm) S=some r:=by
 unfold leastP at h
 split at h
 ·split at h
  ·rename_i x hx
   obtain⟨X,rfl,rfl⟩:=decN_some hx
   rw[N5.now_eq,fl_n,fl_enc]at h
   simp only[List.map_cons,List.map_nil,fl_no,F_least]
   exact h
  ·cases h
 ·cases h
def bnow{α:Type}:Str→(Str→α)→α
 |[],k=>k []
 |c::r,k=>nst c.toNat fun n=>bnow r fun l=>k (UInt8.ofNat n::l)
theorem bnow_eq{α:Type}:∀(l:Str)(k:Str→α),bnow l k=k l
 |[],_=>rfl
 |c::r,k=>by
  rw[bnow,nst_eq,bnow_eq r]
  simp
def bytesP(args:List AV)(S:St):Option (AV × St):=
 match args with
 |[u]=>match decN u with
  |some x=>bnow (x.fl).bytes fun b=>some (.agg (encB b),S)
  |none=>none
 |_=>none
theorem bytesP_ok(args:List AV)(S:St)(r:AV × St)(h:bytesP args S=some r):DF lib nk 87 (args.map norm) S=some r:=by
 unfold bytesP at h
 split at h
 ·split at h
  ·rename_i x hx
   obtain⟨X,rfl,rfl⟩:=decN_some hx
   rw[bnow_eq,fl_n]at h
   simp only[List.map_cons,List.map_nil,fl_no,F_Bytes]
   exact h
  ·cases h
 ·cases h
def prims2:List (FuncId × Prim):=[(86,two N5.mul),(107,two N5.add),(108,two N5.sub),(115,one N5.crr),(85,one N5.inv),
 (129,cst d1N.enc),(109,cst d2N.enc),(110,powP),(83,oneP N20.dbl),(84,twoP (N20.add d2N)),(71,nameP),(80,ofP),(116,leastP),(87,bytesP),(128,turnP)]
def nk2:NK:=⟨fun _=>false,fun f=>match prims2.lookup f with|some p=>some p|none=>nk.prim f⟩
theorem lookup_of{α β:Type}[BEq α][LawfulBEq α]{x:α}{y:β}:∀{l:List (α × β)},l.lookup x=some y→(x,y)∈l
 |[],h=>by simp at h
 |(u,v)::r,h=>by
  rw[List.lookup_cons]at h
  split at h
  ·rename_i e
   cases h
   rw[eq_of_beq e]
   exact List.mem_cons_self ..
  ·exact List.mem_cons_of_mem _ (lookup_of h)
theorem prims2_ok:∀q∈prims2,nk.prim q.1=none∧∀args S r,q.2 args S=some r→DF lib nk q.1 (args.map norm) S=some r:=by
 have ex:∀p o:Pt,(p.add o).n=N20.add d2N p.n o.n:=fun p o=>by rw[padd_n,d2_n]
 have e1:d1N.enc=Fl.d1.enc:=by rw[←d1_n];rfl
 have e2:d2N.enc=Fl.d2.enc:=by rw[←d2_n];rfl
 intro q hq
 simp only[prims2,List.mem_cons,List.not_mem_nil,or_false]at hq
 rcases hq with rfl|rfl|rfl|rfl|rfl|rfl|rfl|rfl|rfl|rfl|rfl|rfl|rfl|rfl|rfl
 ·exact⟨rfl,two_ok F_mul mul_n⟩
 ·exact⟨rfl,two_ok F_add add_n⟩
 ·exact⟨rfl,two_ok F_sub sub_n⟩
 ·exact⟨rfl,one_ok F_carr carry_n⟩
 ·exact⟨rfl,one_ok F_inv inv_n⟩
 ·exact⟨rfl,cst_ok fun S=>by rw[e1];exact F_once S⟩
 ·exact⟨rfl,cst_ok fun S=>by rw[e2];exact F_factor S⟩
 ·exact⟨rfl,powP_ok⟩
 ·exact⟨rfl,oneP_ok F_dbl dbl_n⟩
 ·exact⟨rfl,twoP_ok F_padd ex⟩
 ·exact⟨rfl,nameP_ok⟩
 ·exact⟨rfl,ofP_ok⟩
 ·exact⟨rfl,leastP_ok⟩
 ·exact⟨rfl,bytesP_ok⟩
 ·exact⟨rfl,turnP_ok⟩
theorem DF_nk2{f:FuncId}{args:List AV}{S:St}{r:AV × St}(h:DF lib nk2 f args S=some r):DF lib nk f args S=some r:=by
 refine DF_sub (fun _=>rfl) (fun _=>rfl) (fun f p hp=>?_) (fun f hp=>?_) h
 ·unfold nk2 at hp
  simp only at hp
  split at hp
  ·rename_i p' hl
   cases hp
   exact .inr (prims2_ok _ (lookup_of hl))
  ·exact .inl hp
 ·unfold nk2 at hp
  simp only at hp
  split at hp
  ·cases hp
  ·exact hp
theorem DF_run2{f:FuncId}{args:List AV}{S:St}{r:AV × St}(n:Nat)(h:evKF lib nk2 n f args S=some r):DF lib nk f args S=some r:=DF_nk2 ((DF_some _).2 ⟨n,h⟩)
def key0B:Str:=[206,204,21,7,220,29,221,114,149,149,28,41,8,136,240,149,173,185,4,77,27,115,214,150,230,223,6,93,104,59,212,252]
def key1B:Str:=[107,121,197,126,106,9,82,57,40,44,4,129,142,150,17,47,63,3,164,0,27,169,122,86,76,35,133,42,63,30,165,252]
def key2B:Str:=[218,219,209,132,162,213,38,241,235,221,92,6,253,173,147,89,178,40,117,155,77,127,121,214,102,137,250,37,74,173,133,70]
def seedB:Str:=1::List.replicate 31 0
def sumB0:Str:=[206,12,38,94,204,130,221,140,238,110,86,206,68,228,93,175,215,160,197,117,13,249,20,178,83,161,251,122,138,246,109,219,153,118,54,7,240,168,93,11,212,54,105,25,74,58,64,87,122,82,138,243,149,244,241,126,6,241,222,252,198,222,178,165]
def numB0:Str:=[200,12,38,94,204,130,221,140,238,110,86,206,68,228,93,175,215,160,197,117,13,249,20,178,83,161,251,122,138,246,109,91]
def baseN:N20:=⟨⟨1738742601995546,1146398526822698,2070867633025821,562264141797630,587772402128613⟩,⟨1801439850948184,1351079888211148,450359962737049,900719925474099,1801439850948198⟩,⟨1,0,0,0,0⟩,⟨1841354044333475,16398895984059,755974180946558,900171276175154,1821297809914039⟩⟩
def pubN:N20:=⟨⟨1690029119287517,1790496132682297,1759978215965833,1355471095266160,1351714870413872⟩,⟨886261762332694,1276473284219821,2054754522772702,1288125184430992,1571866657877950⟩,⟨974816877956990,2196121788370518,1513509967290049,627273351370667,2033231128313740⟩,⟨1183156548311214,326044321037251,882543306615728,2043338954553375,2140466996429843⟩⟩
theorem box_list(S:St):∃b:Nat→Box,S=(List.range S.length).map b:=by
 refine⟨fun i=>S.getD i (.iter [] 0), ?_⟩
 apply List.ext_getElem?
 intro i
 rw[List.getElem?_map]
 rcases Nat.lt_or_ge i S.length with h|h
 ·rw[List.getElem?_range h]
  simp[List.getD_eq_getElem?_getD,h]
 ·rw[List.getElem?_eq_none h,List.getElem?_eq_none (by simpa using h)]
  rfl
theorem box_len{n:Nat}{S:St}(h:S.length=n):∃b:Nat→Box,S=(List.range n).map b:=h▸box_list S
theorem mul_25(b:Nat→Box):evKF lib nk2 1000 61 [baseN.enc,.agg (encB numB0)] ((List.range 25).map b)=some (pubN.enc,(List.range 25).map b):=(evKFs_eq _ _ _ _ _ _).symm.trans (by kernel_rfl)
end Go.Proofs.YthiocmkadpdekaaGreatDoor.am
