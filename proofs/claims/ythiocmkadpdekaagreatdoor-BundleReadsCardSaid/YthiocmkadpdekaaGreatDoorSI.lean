/- Parts. No condition. -/
import Derived.Test.YthiocmkadpdekaaGreatDoorProg
import Derived.KernelRfl
import Derived.Lib.Mul64
import Derived.Test.YthiocmkadpdekaaGreatDoorSH
set_option linter.all false
namespace Go.Proofs.YthiocmkadpdekaaGreatDoor.am
open Go Go.RowKit
@[simp low]theorem nkp_eq(f:FuncId):nk.prim f=if f=43 then some ((asQ 99 55 166 94))else if f=100 then some (fillP)else none:=by
  simp only[nk,prims,List.lookup,beq_iff_eq]
  repeat' split
  all_goals simp_all
@[simp]theorem cast_neg(n:Nat):((n:Int)<0)=False:=by simp
def nameR(n:Nat):Bool:=(decide (97≤n)&&decide (n≤122))||(decide (48≤n)&&decide (n≤57))||decide (n=95)
def nameAll(s:Str):Bool:=s.all fun b=>nameR b.toNat
def nameB(s:Str):Bool:=nameAll s&&decide (1≤s.length)&&decide (s.length≤12)
def goN:Option Str→List Str→Bool
 |_,[]=>true
 |p,s::r=>nameB s&&(match p with|none=>true|some q=>Op.bytesLess q s)&&goN (some s) r
def goI:List Int→List Int→Bool
 |_,[]=>true
 |seen,n::r=>decide (n≠0)&& !(seen.contains n)&&goI (seen++[n]) r
@[simp]theorem strip_ptr(i o:Nat):strip (.ptr i o)=.ptr i o:=rfl
section
def bcl(l:Str):List (List AV):=l.map fun b=>[cellB b]
@[simp]theorem bcl_len(l:Str):(bcl l).length=l.length:=by simp[bcl]
@[simp]theorem bcl_app(a b:Str):bcl (a++b)=bcl a++bcl b:=by simp[bcl]
theorem bytesTo_enc(l:List UInt8):bytesTo ((encB l).map fun c=>[c])=some l:=by
 have h:∀l:List UInt8,numsOf ((encB l).map fun c=>[c])=some (l.map fun b=>(b.toNat:Int)):=by
  intro l
  induction l with
  |nil=>rfl
  |cons b l ih=>
   simp only[encB,List.map_cons,cellB,numsOf]at ih⊢
   simp only[List.map_map]at ih⊢
   rw[show(fun c=>[c])∘cellB=fun b:UInt8=>[AV.int .u8 (b.toNat:Int)]from rfl]at ih⊢
   rw[ih];rfl
 rw[bytesTo,h]
 simp only[Option.map_some,List.map_map]
 congr 1
 conv=>rhs;rw[←List.map_id l]
 refine List.map_congr_left fun b _=>?_
 simp
theorem bytesTo_bcl(l:Str):bytesTo (bcl l)=some l:=by
 have:=bytesTo_enc l
 simpa[encB,bcl,Function.comp_def]using this
theorem bI_add(k:IntKind)(a b:Int):evBinII .add k a k b=some (.int k (k.wrap (a+b))):=by simp only[evBinII,ne_eq,not_true_eq_false,if_false]
theorem bI_mul(k:IntKind)(a b:Int):evBinII .mul k a k b=some (.int k (k.wrap (a*b))):=by simp only[evBinII,ne_eq,not_true_eq_false,if_false]
theorem bI_eql(k:IntKind)(a b:Int):evBinII .eql k a k b=some (.bool (a==b)):=by simp only[evBinII,ne_eq,not_true_eq_false,if_false]
theorem bI_lss(k:IntKind)(a b:Int):evBinII .lss k a k b=some (.bool (decide (a<b))):=by simp only[evBinII,ne_eq,not_true_eq_false,if_false]
theorem bI_gtr(k:IntKind)(a b:Int):evBinII .gtr k a k b=some (.bool (decide (a>b))):=by simp only[evBinII,ne_eq,not_true_eq_false,if_false]
theorem bI_geq(k:IntKind)(a b:Int):evBinII .geq k a k b=some (.bool (decide (a≥b))):=by simp only[evBinII,ne_eq,not_true_eq_false,if_false]
theorem bI_shr(k k2:IntKind)(a b:Int)(h:¬b<0):evBinII .shr k a k2 b=some (.int k (a.fdiv (2^(min b.toNat k.bits)))):=by simp only[evBinII];rw[if_neg h]
def rowA(i k sz:Nat)(es:List (List AV)):AV:=if es=[]then .nils else .sl (.bx i k) sz es
@[simp]theorem fill1(x:Int):fillEs 1 [[AV.int .u8 0]] [(0,.int .u8 x)]=some [[.int .u8 x]]:=rfl
section
variable{S T:St}(h:T.length=S.length)
include h in
theorem gT(l:List Box)(k:Nat):(T++l)[S.length+k]? =l[k]? :=by rw[←h];exact get_at T l k
include h in
theorem sT(l:List Box)(k:Nat)(b:Box):(T++l).set (S.length+k) b=T++l.set k b:=by rw[←h];exact set_at T l k b
include h in
theorem lT(sh:Sh)(l:List Box)(k off:Nat):loadK (T++l) sh (.ptr (S.length+k) off)=match l[k]? with
 |some (.mem cs _ _)=>partK sh cs off
 |_=>none:=by rw[←h];exact loadK_at T sh l k off
include h in
theorem lT0(sh:Sh)(l:List Box)(off:Nat):loadK (T++l) sh (.ptr S.length off)=match l[0]? with
 |some (Box.mem cs _ _)=>partK sh cs off
 |_=>none:=lT h sh l 0 off
include h in
theorem stTa{cs':List AV}(hp:plainL cs'=true)(l:List Box)(k off:Nat)(tips:List (Option Nat))(nb n:Nat):storeK tips nb (T++l) n (.ptr (S.length+k) off) (.agg cs')=match l[k]? with
 |some (.mem cs bt false)=>if cs'.length=n∧off+n≤cs.length then some (tips,T++l.set k (.mem (splice cs off cs') bt false))else none
 |_=>none:=by
 unfold storeK
 simp only[gT h]
 cases hl:l[k]? with
 |none=>rfl
 |some b=>
  cases b with
  |iter s p=>rfl
  |map es=>rfl
  |mem cs bt lk=>
   cases lk with
   |true=>rfl
   |false=>
    have h1:plain (strip (.agg cs'))=true:=by simpa[strip,plain]using hp
    have h2:(isVal (.agg cs')=true∧(AV.agg cs').cells.length=n∧off+n≤cs.length∧(nb≤S.length+k∨plain (strip (.agg cs'))=true))↔(cs'.length=n∧off+n≤cs.length):=by
     constructor
     ·exact fun e=>⟨e.2.1,e.2.2.1⟩
     ·exact fun e=>⟨rfl,e.1,e.2,.inr h1⟩
    simp only[h2,regBox,sT h]
    rfl
theorem stTa0{S T:St}(h:T.length=S.length){cs':List AV}(hp:plainL cs'=true)(l:List Box)(off:Nat)(tips:List (Option Nat))(nb n:Nat):storeK tips nb (T++l) n (.ptr S.length off) (.agg cs')=match l[0]? with
 |some (Box.mem cs bt false)=>if cs'.length=n∧off+n≤cs.length then some (tips,T++l.set 0 (.mem (splice cs off cs') bt false))else none
 |_=>none:=stTa h hp l 0 off tips nb n
end
theorem set_front{S:St}{j:Nat}{b:Box}(l:List Box)(h:j<S.length):(S++l).set j b=S.set j b++l:=List.set_append_left _ _ h
theorem get_front{S:St}{j:Nat}{b:Box}(l:List Box)(h:S[j]? =some b):(S++l)[j]? =some b:=by
 rw[List.getElem?_append_left (List.getElem?_eq_some_iff.1 h).1];exact h
def rowS(sz:Nat)(es:List (List AV)):AV:=if es=[]then .nils else .sl .none sz es
@[simp]theorem normr_sl(r:Right)(sz:Nat)(es:List (List AV)):normr (.sl r sz es)=.sl r sz es:=rfl
theorem giveRes_fr(tips:List (Option Nat))(k sz:Nat)(es:List (List AV))(h:tips[k]? =some (some es.length)):giveRes tips (.sl (.fr k) sz es)=(.sl .fresh sz es,tips.set k none):=by
 simp only[giveRes];rw[if_pos h]
@[simp]theorem plainRes_fresh(sz:Nat)(es:List (List AV)):plainRes (.sl .fresh sz es)=plainEs es:=rfl
@[simp]theorem notTup_sl(r:Right)(sz:Nat)(es:List (List AV)):notTup (.sl r sz es)=true:=rfl
end
def bytesB(s:Str):Str:=numB s.length++s
namespace Rd
def int(r:Rd):Int × Rd:=match r.number 18446744073709551615 with
 |(n,r)=>(if n %2=1 then-((n/2:Nat):Int) -1 else((n/2:Nat):Int),r)
def name(r:Rd):Str × Rd:=match r.bytes 64 with
 |(s,r)=>(s,if nameB s=true then r else r.fail 2)
def count(most:Nat)(r:Rd):Nat × Rd:=match r.number 18446744073709551615 with
 |(n,r)=>if most<n then(0,r.fail 3)else(n,r)
def recs(f:Rd→Val × Rd):Nat→List Str→List Val→Rd→List Str × List Val × Rd
 |0,ns,ps,r=>(ns,ps,r)
 |n+1,ns,ps,r=>if r.err.isSome=true then(ns,ps,r)else
  match r.name with
  |(s,r)=>match f (if goN none (ns++[s])=true then r else r.fail 2)with
   |(p,r)=>recs f n (ns++[s]) (ps++[p]) r
def elems(f:Rd→Val × Rd):Nat→List Int→List Val→Rd→List Int × List Val × Rd
 |0,is,ps,r=>(is,ps,r)
 |n+1,is,ps,r=>if r.err.isSome=true then(is,ps,r)else
  match r.number 18446744073709551615 with
  |(i,r)=>match f (if goI [] (is++[(i:Int)])=true then r else r.fail 2)with
   |(p,r)=>elems f n (is++[(i:Int)]) (ps++[p]) r
def fin{α:Type}(z:α)(x:α × Rd):α × Rd:=if x.2.err.isSome=true then(z,x.2)else x
def val:Nat→Rd→Val × Rd
 |0,r=>(.mk 0 0 [] [] [] [],(r.fail 4).byte.2)
 |d+1,r=>match r.byte with
  |(k,r)=>if r.err.isSome=true then(.mk 0 0 [] [] [] [],r)else
   fin (.mk 0 0 [] [] [] []) (
    if k=1 then(match r.bool with|(b,r)=>(.mk 1 (if b then 1 else 0) [] [] [] [],r))
    else if k=2 then(match r.int with|(n,r)=>(.mk 2 n [] [] [] [],r))
    else if k=3 then(match r.bytes 64 with|(s,r)=>(.mk 3 0 s [] [] [],r))
    else if k=4 then(match r.name with|(s,r)=>(.mk 4 0 s [] [] [],r))
    else if k=5 then(match r.count 8 with|(n,r)=>match recs (val d) n [] [] r with|(ns,ps,r)=>(.mk 5 0 [] ns [] ps,r))
    else if k=6 then(match r.count 12 with|(n,r)=>match elems (val d) n [] [] r with|(is,ps,r)=>(.mk 6 0 [] [] is ps,r))
    else(.mk k 0 [] [] [] [],r.fail 5))
end Rd
def stepR(s:Step'):Bool:=if s.name=[]then decide (s.id≠0)else decide (s.id=0)&&nameB s.name
namespace Rd
def step(r:Rd):Step' × Rd:=match r.bytes 64 with
 |(s,r)=>if s=[]then(match r.number 18446744073709551615 with
    |(n,r)=>(⟨[],n⟩,if stepR ⟨[],n⟩=true then r else r.fail 2))
  else(⟨s,0⟩,if stepR ⟨s,0⟩=true then r else r.fail 2)
end Rd
namespace Rd
end Rd
namespace Rd
@[simp]theorem go_err(r:Rd)(k:Nat):(r.go k).err=r.err:=rfl
@[simp]theorem go_b(r:Rd)(k:Nat):(r.go k).b=r.b:=rfl
theorem go_left(r:Rd)(k:Nat):(r.go k).left=r.left.drop k:=by simp[Rd.go,Rd.left,List.drop_drop]
end Rd
namespace Rd
end Rd
namespace Rd
def checked(f:Val→Bool)(r:Rd):Val × Rd:=match r.val 5 with
 |(v,r)=>(v,if r.err.isSome=true∨f v=true then r else r.fail 2)
end Rd
def wrB(j:Nat)(out:Str):Box:=.mem [rowA j 0 1 (bcl out)] (if out=[]then[]else[some out.length]) false
theorem plainEs_bcl(l:Str):plainEs (bcl l)=true:=plainEs_iff.2 fun x hx=>by
 obtain⟨b,_,rfl⟩:=List.mem_map.1 hx
 rfl
theorem bcl_nil(l:Str):bcl l=[]↔l=[]:=by simp[bcl]
theorem elems_encBs(S:St)(b:Str)(h:b≠[]):elemsOf S (encBs b)=some (1,bcl b):=by
 cases b with
 |nil=>exact absurd rfl h
 |cons a r=>rfl
theorem wr_app{S:St}{j:Nat}{out b:Str}(hS:S[j]? =some (wrB j out))(hl:out.length+b.length≤1073741824):
 ∃v1 t1 S1 t2,appendK 1 [] S (rowA j 0 1 (bcl out)) (encBs b)=some (v1,t1,S1)∧∀nb,storeK t1 nb S1 1 (.ptr j 0) v1=some (t2,S.set j (wrB j (out++b))):=by
 have hj:=(List.getElem?_eq_some_iff.1 hS).1
 by_cases hb:b=[]
 ·subst hb
  refine⟨rowA j 0 1 (bcl out),[],S,[], ?_,fun nb=>?_⟩
  ·have e:elemsOf S (encBs [])=some (1,[]):=rfl
   by_cases hn:bcl out=[]
   ·simp[appendK,rowA,hn,e]
   ·simp[appendK,rowA,hn,e]
  ·rw[List.append_nil]
   unfold storeK
   simp only[hS,wrB]
   by_cases ho:out=[]
   ·subst ho
    simp[rowA,bcl,isVal,AV.cells,strip,plain,regBox,splice]
   ·have hp:plainEs (bcl out)=true:=plainEs_bcl out
    have hbn:¬bcl out=[]:=fun e=>ho ((bcl_nil _).1 e)
    simp[rowA,hbn,isVal,AV.cells,strip,plain,hp,regBox,splice]
 ·have he:=elems_encBs S b hb
  have hb0:¬(bcl b).length=0:=by rw[bcl_len];cases b<;>simp at hb⊢
  have hbl:¬b.length=0:=by rw[bcl_len]at hb0;exact hb0
  by_cases ho:out=[]
  ·subst ho
   refine⟨.sl (.fr 0) 1 (bcl b),[some b.length],S,[none], ?_,fun nb=>?_⟩
   ·have:b.length≤1073741824:=by simp at hl;exact hl
    simp[rowA,bcl,appendK]
    simp[show elemsOf S (encBs b)=some (1,b.map fun x=>[cellB x])from he,hb,this]
   ·have hp:plainEs (bcl b)=true:=plainEs_bcl b
    have hbn:¬bcl b=[]:=fun e=>hb ((bcl_nil _).1 e)
    unfold storeK
    simp only[hS,wrB]
    simp[rowA,hbn,hb,isVal,AV.cells,strip,plain,hp,regBox,splice]
  ·have hbn:¬bcl out=[]:=fun e=>ho ((bcl_nil _).1 e)
   have hbn2:¬bcl (out++b)=[]:=fun e=>by rw[bcl_nil]at e;simp at e;exact ho e.1
   have hp:plainEs (bcl (out++b))=true:=plainEs_bcl _
   have hlt:¬(1073741824<out.length+b.length):=by omega
   refine⟨.sl (.bx j 0) 1 (bcl (out++b)),[],S.set j (.mem [rowA j 0 1 (bcl out)] [some (out++b).length] false),[], ?_,fun nb=>?_⟩
   ·unfold appendK
    rw[he]
    simp only[wrB,if_neg ho]at hS
    simp[rowA,hbn,hb,hS,hlt]
   ·unfold storeK
    simp only[List.getElem?_set_self hj,wrB]
    rw[bcl_app]at hp
    have hbn3:¬(bcl out=[]∧bcl b=[]):=fun e=>hbn e.1
    simp[rowA,hbn3,ho,isVal,AV.cells,strip,plain,hp,regBox,splice]
theorem F_Writer_Raw{S:St}{j:Nat}{out:Str}(hS:S[j]? =some (wrB j out))(b:Str)(hl:out.length+b.length≤1073741824):DF lib nk 41 [.ptr j 0,encBs b] S=some (.tup [],S.set j (wrB j (out++b))):=by
 rw[run_pack_Writer_Raw,DC_of c_pack_Writer_Raw.eq_1]
 obtain⟨v1,t1,S1,t2,h1,h2⟩:=wr_app hS hl
 have hj:=(List.getElem?_eq_some_iff.1 hS).1
 have hld:loadK S .cell (.ptr j 0)=some (rowA j 0 1 (bcl out)):=by rw[loadK_ptr hS];rfl
 have htk:(S.set j (wrB j (out++b))).take S.length=S.set j (wrB j (out++b)):=List.take_of_length_le (by simp)
 simp[hld,h1,h2,evNilCheck,htk,resK,giveResL,retOf,plainRes]
theorem pN_pos:∀(s:Str)(i v k:Nat),pN i s=some (v,k)→0<i→v≠0
 |[],i,v,k,h,_=>by simp[pN]at h
 |c::r,i,v,k,h,hi=>by
  unfold pN at h
  split at h
  ·cases h
  ·split at h
   ·obtain⟨⟨v',k'⟩,h2,h3⟩:=Option.map_eq_some_iff.1 h
    have:=pN_pos r (i+1) v' k' h2 (by omega)
    simp at h3
    omega
   ·split at h
    ·cases h
    ·simp at h;omega
theorem pN_inv:∀(s:Str)(i v k:Nat),pN i s=some (v,k)→k=(numB v).length∧s=numB v++s.drop k
 |[],i,v,k,h=>by simp[pN]at h
 |c::r,i,v,k,h=>by
  have hc:=c.toNat_lt
  unfold pN at h
  split at h
  ·cases h
  ·split at h
   ·rename_i h1 h2
    obtain⟨⟨v',k'⟩,h3,h4⟩:=Option.map_eq_some_iff.1 h
    have h5:=pN_pos r (i+1) v' k' h3 (by omega)
    obtain⟨h6,h7⟩:=pN_inv r (i+1) v' k' h3
    simp at h4
    obtain⟨h8,h9⟩:=h4
    have e1:v/128=v':=by omega
    have e2:UInt8.ofNat (v %128+128)=c:=by apply UInt8.toNat_inj.1;rw[UInt8.toNat_ofNat'];omega
    unfold numB
    rw[if_neg (by omega),e1,e2,←h9]
    refine⟨by simp[h6], ?_⟩
    simp only[List.drop_succ_cons,List.cons_append]
    rw[←h7]
   ·rename_i h1 h2
    split at h
    ·cases h
    ·simp at h
     obtain⟨rfl,rfl⟩:=h
     unfold numB
     rw[if_pos (by omega)]
     simp
namespace Rd
@[simp]theorem fail_err(r:Rd)(c:Nat):(r.fail c).err≠none:=by
  unfold Rd.fail
  split
  ·simp
  ·rename_i h;rw[h];simp
theorem number_inv{r r':Rd}{n most:Nat}(h:r.number most=(n,r'))(he:r'.err=none):r.err=none∧n≤most∧n<18446744073709551616∧r.left=numB n++r'.left∧r'=r.go (numB n).length:=by
 unfold Rd.number at h
 split at h
 ·rename_i e;simp at h;rw[←h.2,e]at he;cases he
 ·rename_i e
  split at h
  ·simp at h;rw[←h.2]at he;exact absurd he (by simp)
  ·rename_i n' k e2
   split at h
   ·simp at h;rw[←h.2]at he;exact absurd he (by simp)
   ·simp at h
    obtain⟨rfl,rfl⟩:=h
    obtain⟨h1,h2⟩:=pN_inv _ _ _ _ e2
    refine⟨e,by omega,parse_lt e2, ?_,by rw[h1]⟩
    rw[go_left];exact h2
theorem bytes_inv{r r':Rd}{s:Str}{most:Nat}(h:r.bytes most=(s,r'))(he:r'.err=none):r.err=none∧s.length≤most∧s.length<18446744073709551616∧r.left=bytesB s++r'.left∧r'=r.go (bytesB s).length:=by
 unfold Rd.bytes at h
 split at h
 ·rename_i e;simp at h;rw[←h.2,e]at he;cases he
 ·rename_i e
  split at h
  ·simp at h;rw[←h.2]at he;exact absurd he (by simp)
  ·rename_i n k e2
   split at h
   ·simp at h;rw[←h.2]at he;exact absurd he (by simp)
   ·split at h
    ·simp at h;rw[←h.2]at he;exact absurd he (by simp)
    ·rename_i h3 h4
     simp at h
     obtain⟨rfl,rfl⟩:=h
     obtain⟨h1,h2⟩:=pN_inv _ _ _ _ e2
     have hl:=pN_len _ _ _ _ e2
     have hlen:((r.left.drop k).take n).length=n:=by rw[List.length_take,List.length_drop];omega
     have hn:=parse_lt e2
     refine⟨e,by omega,by omega, ?_,by unfold bytesB;rw[List.length_append,hlen,←h1]⟩
     unfold bytesB
     rw[hlen,go_left,List.append_assoc]
     have:((r.left.drop k).take n)++r.left.drop (k+n)=r.left.drop k:=by
      rw[←List.drop_drop];exact List.take_append_drop _ _
     rw[this]
     exact h2
end Rd
section
def errAt(c p:Nat):AV:=.ifc 94 (.rptr .none [.int .i64 (p:Int),.ifc 55 (.int .i64 (c:Int))] 0)
def errV:Option (Nat × Nat)→AV
 |none=>.nili
 |some (c,p)=>errAt c p
@[simp]theorem datC_errAt(c p:Nat):DatC (errAt c p):=⟨rfl,rfl,rfl,by simp[errAt],rfl,rfl⟩
@[simp]theorem datC_errV(e:Option (Nat × Nat)):DatC (errV e):=by
  cases e with
  |none=>exact datC_nili
  |some x=>exact datC_errAt x.1 x.2
@[simp]theorem dat_errV(e:Option (Nat × Nat)):Dat (errV e):=(datC_errV e).dat
def rdB(_:Nat)(r:Rd):Box:=.mem [rowS 1 (bcl r.b),.int .i64 (r.at_:Int),errV r.err] [] false
theorem F_fault_Wrap(c p:Nat)(S:St):DF lib nk 19 [.ifc 55 (.int .i64 (c:Int)),.int .i64 (p:Int)] S=some (errAt c p,S):=by
 rw[run_fault_Wrap,DC_of c_fault_Wrap.eq_1]
 simp[evBinE,evEqK,fillK,mkiK,isVal,AV.cells,strip,splice,notTup,normr,giveRes,plainRes,plain,plainL,resB,fineRes,fine1,lt,frzR,frz1,pfr,frz,errAt]
section
variable{S:St}{j:Nat}{r:Rd}(hS:S[j]? =some (rdB j r))
include hS in
theorem rd_ld0:loadK S .cell (.ptr j 0)=some (rowS 1 (bcl r.b)):=by rw[loadK_ptr hS];rfl
include hS in
theorem rd_ld1:loadK S .cell (.ptr j 1)=some (.int .i64 (r.at_:Int)):=by rw[loadK_ptr hS];rfl
include hS in
theorem rd_ld2:loadK S .cell (.ptr j 2)=some (errV r.err):=by rw[loadK_ptr hS];rfl
include hS in
theorem rd_st1(a:Nat)(tips:List (Option Nat))(nb:Nat):storeK tips nb S 1 (.ptr j 1) (.int .i64 (a:Int))=some (tips,S.set j (rdB j {r with at_:=a})):=by
 rw[storeK_dat (dat_int _ _) hS,if_pos ⟨rfl,by simp⟩]
 rfl
include hS in
theorem rd_st2(e:Option (Nat × Nat))(tips:List (Option Nat))(nb:Nat):storeK tips nb S 1 (.ptr j 2) (errV e)=some (tips,S.set j (rdB j {r with err:=e})):=by
 have hc:(errV e).cells=[errV e]:=by cases e<;>rfl
 rw[storeK_dat (dat_errV e) hS,if_pos ⟨by rw[hc];rfl,by simp⟩,hc]
 rfl
include hS in
theorem set_same:S.set j (rdB j r)=S:=by
 obtain⟨h,e⟩:=List.getElem?_eq_some_iff.1 hS
 rw[←e,List.set_getElem_self]
include hS in
theorem F_Reader_Fail(c:Nat)(hc:c≠0):DF lib nk 27 [.ptr j 0,.int .i64 (c:Int)] S=some (.tup [],S.set j (rdB j (r.fail c))):=by
 rw[run_pack_Reader_Fail,DC_of c_pack_Reader_Fail.eq_1]
 have h1:=rd_ld1 hS
 have h2:=rd_ld2 hS
 have hw:=F_fault_Wrap c r.at_ S
 have hs:=rd_st2 hS (some (c,r.at_)) [] S.length
 have hc':¬(c:Int)=0:=by omega
 have hcn:¬c=0:=hc
 have tk:∀b,(S.set j b).take S.length=S.set j b:=fun b=>List.take_of_length_le (by simp)
 cases he:r.err with
 |none=>
  rw[he]at h2
  have hf:r.fail c={r with err:=some (c,r.at_)}:=by unfold Rd.fail;rw[he]
  have tk0:takeRet [] (errAt c r.at_)=(errAt c r.at_,[]):=rfl
  have mk:mkiK 55 (.int .i64 (c:Int))=some (.ifc 55 (.int .i64 (c:Int))):=rfl
  have hs':storeK [] S.length S 1 (.ptr j 2) (errAt c r.at_)=some ([],S.set j (rdB j {r with err:=some (c,r.at_)})):=hs
  simp[r_pack_Reader_Fail_0,evBinE,evEqK,evNilCheck,h1,h2,errV,hc',hcn,mk,hw,tk0,hs',hf,tk,resK,giveResL,retOf,plainRes]
 |some x=>
  rw[he]at h2
  have hf:r.fail c=r:=by unfold Rd.fail;rw[he]
  have hss:=set_same hS
  have e1:evBinE .eql (.ifc kts_0) true (errAt x.1 x.2) .nili=some (.bool false):=rfl
  simp[r_pack_Reader_Fail_0,evBinE,evEqK,evNilCheck,h1,h2,errV,errAt,hf,hss,resK,giveResL,retOf,plainRes]
end
end
theorem andNot128(c:UInt8):evBinII .andNot .u8 (c.toNat:Int) .u8 128=some (.int .u8 ((c.toNat %128:Nat):Int)):=by
 have key:∀x:Fin 256,IntKind.wrap .u8 ((BitVec.ofInt IntKind.u8.bits (x.val:Int)&&& ~~~BitVec.ofInt IntKind.u8.bits 128).toNat:Int)=((x.val %128:Nat):Int):=by decide+kernel
 simp only[evBinII,ne_eq,not_true_eq_false,if_false]
 exact congrArg some (congrArg (AV.int .u8) (key ⟨c.toNat,c.toNat_lt⟩))
theorem shl7(d i:Nat)(hi:i≤9)(h:d*128^i<18446744073709551616):evBinII .shl .u64 (d:Int) .i64 ((7*i:Nat):Int)=some (.int .u64 ((d*128^i:Nat):Int)):=by
 have e1:min ((7*i:Nat):Int).toNat IntKind.u64.bits=7*i:=by
  rw[Int.toNat_natCast]
  show min (7*i) 64=_
  omega
 have e2:(2:Int)^(7*i)=((128^i:Nat):Int):=by
  rw[show(128:Nat)=2^7 from rfl,←Nat.pow_mul]
  push_cast
  rfl
 simp only[evBinII]
 rw[if_neg (by omega),e1,e2,←Int.natCast_mul]
 congr 2
 show((d*128^i:Nat):Int)%18446744073709551616=_
 omega
theorem or_add(acc d i:Nat)(ha:acc<128^i)(h:acc+d*128^i<18446744073709551616):evBinII .or .u64 (acc:Int) .u64 ((d*128^i:Nat):Int)=some (.int .u64 ((acc+d*128^i:Nat):Int)):=by
 have hh:evBinII .or .u64 (acc:Int) .u64 ((d*128^i:Nat):Int)=some (.int .u64 (IntKind.wrap .u64 ((BitVec.ofInt 64 (acc:Int)|||BitVec.ofInt 64 ((d*128^i:Nat):Int):BitVec 64).toNat:Int))):=by
  simp only[evBinII,ne_eq,not_true_eq_false,if_false];rfl
 have h128:(128:Nat)^i=2^(7*i):=by rw[show(128:Nat)=2^7 from rfl,←Nat.pow_mul]
 have e:(BitVec.ofInt 64 (acc:Int)|||BitVec.ofInt 64 ((d*128^i:Nat):Int):BitVec 64).toNat=acc+d*128^i:=by
  rw[BitVec.toNat_or]
  have t:∀x:Nat,x<18446744073709551616→(BitVec.ofInt 64 (x:Int)).toNat=x:=by
   intro x hx
   rw[BitVec.toNat_ofInt]
   omega
  rw[t acc (by omega),t (d*128^i) (by omega),h128,←Nat.shiftLeft_eq]
  rw[h128]at ha
  rw[Nat.or_comm,←Nat.shiftLeft_add_eq_or_of_lt ha]
  omega
 rw[hh,e]
 congr 2
 show((acc+d*128^i:Nat):Int)%18446744073709551616=_
 omega
def numR:Option (Nat × Nat)→AV
 |none=>.tup [.int .u64 0,.int .i64 0,.int .i64 2]
 |some (n,k)=>.tup [.int .u64 (n:Int),.int .i64 (k:Int),.int .i64 0]
theorem L_number{s:Str}{nb:Nat}{S:St}:∀(r pre:Str)(acc:Nat),s=pre++r→s.length<9223372036854775808→acc<128^pre.length→pre.length≤10→
 DC lib nk (.loop l_pack_number_0) ⟨[(5,.int .u64 (acc:Int)),(8,encBs s),(9,.int .i64 (s.length:Int)),(10,.int .i64 (pre.length:Int))],[],nb⟩ S=
  match pN pre.length r with
  |none=>some (.exit 0,⟨[],[],nb⟩,S)
  |some (v,k)=>some (.ret,⟨[(2,.int .u64 ((acc+128^pre.length*v:Nat):Int)),(3,.int .i64 ((pre.length+k:Nat):Int)),(4,.int .i64 0)],[],nb⟩,S)
 |[],pre,acc,hs,hl,ha,hp=>by
  have e:s.length=pre.length:=by rw[hs];simp
  rw[DC_loop',DC_of l_pack_number_0.eq_1,e]
  simp[pN]
 |c::r,pre,acc,hs,hl,ha,hp=>by
  have hlt:pre.length<s.length:=by rw[hs];simp
  have hlt':(pre.length:Int)<s.length:=by omega
  have hg:s[pre.length]? =some c:=by rw[hs];simp
  have hc:c.toNat<256:=c.toNat_lt
  have an:=andNot128 c
  rw[DC_loop',DC_of l_pack_number_0.eq_1]
  have hix:=ixLK_encBs s .i64 pre.length
  rw[hg]at hix
  have hwi:IntKind.wrap .i64 (7*(pre.length:Int))=7*(pre.length:Int):=by
   rw[wrap64 (by omega)]
  generalize hi:pre.length=i at*
  by_cases h1:10≤i∨(i=9∧1<c.toNat)
  ·have hpn:pN i (c::r)=none:=by unfold pN;rw[if_pos h1]
   rw[hpn]
   by_cases h10:i=10
   ·have p10:((i:Int)=10)=True:=eq_true (by omega)
    simp[r_pack_number_0, -evBinII,bI_lss,bI_eql,bI_gtr,hlt',hlt,hix,cellB,p10]
   ·have p10:((i:Int)=10)=False:=eq_false (by omega)
    have p9:((i:Int)=9)=True:=eq_true (by omega)
    have c1:(1<(c.toNat:Int))=True:=eq_true (by omega)
    simp[r_pack_number_0, -evBinII,bI_lss,bI_eql,bI_gtr,hlt',hlt,hix,cellB,p10,p9,c1]
  ·have p10:((i:Int)=10)=False:=eq_false (by omega)
   have ih:=L_number (s:=s) (nb:=nb) (S:=S) r (pre++[c]) (acc+c.toNat %128*128^i) (by rw[hs];simp) hl (by
    have e:(pre++[c]).length=i+1:=by simp[hi]
    rw[e,Nat.pow_succ]
    have:c.toNat %128*128^i≤127*128^i:=Nat.mul_le_mul_right _ (by omega)
    omega) (by simp;omega)
   have e:(pre++[c]).length=i+1:=by simp[hi]
   rw[e]at ih
   have hb:acc+c.toNat %128*128^i<18446744073709551616:=by
    by_cases p9:i=9
    ·subst p9
     have hq:c.toNat %128≤1:=by omega
     have:c.toNat %128*128^9≤1*128^9:=Nat.mul_le_mul_right _ hq
     omega
    ·have h8:128^i≤128^8:=Nat.pow_le_pow_right (by decide) (by omega)
     have:c.toNat %128*128^i≤127*128^i:=Nat.mul_le_mul_right _ (by omega)
     omega
   have e1:=shl7 (c.toNat %128) i (by omega) (by omega)
   rw[show((7*i:Nat):Int)=7*(i:Int)by omega]at e1
   have e2:=or_add acc (c.toNat %128) i ha hb
   have ew:IntKind.wrap .u64 ((c.toNat %128:Nat):Int)=((c.toNat %128:Nat):Int):=by show((c.toNat %128:Nat):Int)%18446744073709551616=_;omega
   have hw1:IntKind.wrap .i64 ((i:Int)+1)=((i+1:Nat):Int):=wrap_succ (by omega)
   generalize hd:c.toNat %128*128^i=d at*
   generalize hm:c.toNat %128=m at*
   have hA:(((i:Int)=9)=True∧(1<(c.toNat:Int))=False)∨((i:Int)=9)=False:=by
    by_cases p9:i=9
    ·exact .inl ⟨eq_true (by omega),eq_false (by omega)⟩
    ·exact .inr (eq_false (by omega))
   by_cases c128:128≤c.toNat
   ·have c128':(128≤(c.toNat:Int))=True:=eq_true (by omega)
    rcases hA with⟨p9,c1⟩|p9
    ·have:c.toNat≤1:=by
      have h:=of_eq_false c1
      omega
     omega
    ·simp[r_pack_number_0, -evBinII,bI_lss,bI_eql,bI_gtr,bI_geq,bI_mul,bI_add,hlt',hlt,hix,cellB,p10,p9,an,hwi,ew,e1,e2,c128',hw1]
     rw[DC_keep_of l_pack_number_0.eq_1]
     simp
     refine Eq.trans ih ?_
     have hpn:pN i (c::r)=(pN (i+1) r).map fun x=>(c.toNat -128+128*x.1,x.2+1):=by
      conv=>lhs;unfold pN
      rw[if_neg h1,if_pos c128]
     rw[hpn]
     cases hq:pN (i+1) r with
     |none=>rfl
     |some x=>
      obtain⟨v,k⟩:=x
      have f1:acc+d+128^(i+1)*v=acc+128^i*(c.toNat -128+128*v):=by
       have:m=c.toNat -128:=by omega
       rw[←this,←hd,Nat.pow_succ,Nat.mul_add,Nat.mul_comm m,Nat.mul_assoc,Nat.add_assoc]
      have f2:i+1+k=i+(k+1):=by omega
      simp only[f1,f2]
      simp
   ·have c128':(128≤(c.toNat:Int))=False:=eq_false (by omega)
    have hmc:m=c.toNat:=by omega
    by_cases hz:c.toNat=0∧0<i
    ·have hpn:pN i (c::r)=none:=by
      conv=>lhs;unfold pN
      rw[if_neg h1,if_neg c128,if_pos hz]
     have z1:(c.toNat=0)=True:=eq_true (by omega)
     have z2:(0<i)=True:=eq_true (by omega)
     rw[hpn]
     rcases hA with⟨p9,c1⟩|p9
     ·simp[r_pack_number_0, -evBinII,bI_lss,bI_eql,bI_gtr,bI_geq,bI_mul,bI_add,hlt',hlt,hix,cellB,p10,p9,c1,an,hwi,ew,e1,e2,c128',hw1,z1,z2]
     ·simp[r_pack_number_0, -evBinII,bI_lss,bI_eql,bI_gtr,bI_geq,bI_mul,bI_add,hlt',hlt,hix,cellB,p10,p9,an,hwi,ew,e1,e2,c128',hw1,z1,z2]
    ·have hpn:pN i (c::r)=some (c.toNat,1):=by
      conv=>lhs;unfold pN
      rw[if_neg h1,if_neg c128,if_neg hz]
     rw[hpn]
     have f1:acc+d=acc+128^i*c.toNat:=by rw[←hd,hmc,Nat.mul_comm]
     rw[f1]at e2
     have hZ:(c.toNat=0)=False∨((c.toNat=0)=True∧(0<i)=False):=by
      by_cases z:c.toNat=0
      ·exact .inr ⟨eq_true (by omega),eq_false (by omega)⟩
      ·exact .inl (eq_false (by omega))
     rcases hA with⟨p9,c1⟩|p9<;>rcases hZ with z1|⟨z1,z2⟩
     ·simp[r_pack_number_0, -evBinII,bI_lss,bI_eql,bI_gtr,bI_geq,bI_mul,bI_add,hlt',hlt,hix,cellB,p10,p9,c1,an,hwi,ew,e1,e2,c128',hw1,z1]
     ·simp[r_pack_number_0, -evBinII,bI_lss,bI_eql,bI_gtr,bI_geq,bI_mul,bI_add,hlt',hlt,hix,cellB,p10,p9,c1,an,hwi,ew,e1,e2,c128',hw1,z1,z2]
     ·simp[r_pack_number_0, -evBinII,bI_lss,bI_eql,bI_gtr,bI_geq,bI_mul,bI_add,hlt',hlt,hix,cellB,p10,p9,an,hwi,ew,e1,e2,c128',hw1,z1]
     ·simp[r_pack_number_0, -evBinII,bI_lss,bI_eql,bI_gtr,bI_geq,bI_mul,bI_add,hlt',hlt,hix,cellB,p10,p9,an,hwi,ew,e1,e2,c128',hw1,z1,z2]
theorem F_number(s:Str)(hl:s.length<9223372036854775808)(S:St):DF lib nk 47 [encBs s] S=some (numR (pN 0 s),S):=by
 rw[run_pack_number,DC_of c_pack_number.eq_1]
 have h:=L_number (s:=s) (nb:=S.length) (S:=S) s [] 0 rfl hl (by simp) (by simp)
 simp at h
 cases hp:pN 0 s with
 |none=>
  rw[hp]at h
  simp
  rw[DC_keep_of l_pack_number_0.eq_1]
  simp[h,numR,resK,giveResL,retOf,plainRes]
 |some x=>
  rw[hp]at h
  simp at h
  simp
  rw[DC_keep_of l_pack_number_0.eq_1]
  simp[h,numR,resK,giveResL,retOf,plainRes]
section
def capOk(c:AV):Prop:=(∀S,giveArg S c=some c)∧norm c=c∧boxOf c=none∧strip c=c
theorem capOk_ptr(i k:Nat):capOk (.ptr i k):=⟨fun _=>rfl,rfl,rfl,rfl⟩
theorem caps_give(S:St):∀(l:List AV),(∀c∈l,capOk c)→l.mapM (giveArg S)=some l
 |[],_=>rfl
 |c::l,h=>by
  rw[List.mapM_cons,(h c (by simp)).1 S,caps_give S l fun x hx=>h x (by simp[hx])]
  rfl
theorem caps_norm:∀(l:List AV),(∀c∈l,capOk c)→l.map norm=l
 |[],_=>rfl
 |c::l,h=>by
  rw[List.map_cons,(h c (by simp)).2.1,caps_norm l fun x hx=>h x (by simp[hx])]
theorem caps_lock(S:St):∀(l:List AV),(∀c∈l,capOk c)→lockAll S l=S
 |[],_=>rfl
 |c::l,h=>by
  have e:lockOne S c=S:=by unfold lockOne;rw[(h c (by simp)).2.2.1]
  show lockAll (lockOne S c) l=S
  rw[e,caps_lock S l fun x hx=>h x (by simp[hx])]
theorem caps_unlock(S₀ S:St):∀(l:List AV),(∀c∈l,capOk c)→unlockAll S₀ S l=S
 |[],_=>rfl
 |c::l,h=>by
  have e:unlockOne S₀ S c=S:=by unfold unlockOne;rw[(h c (by simp)).2.2.1]
  show unlockAll S₀ (unlockOne S₀ S c) l=S
  rw[e,caps_unlock S₀ S l fun x hx=>h x (by simp[hx])]
def leftV(_:Nat)(r:Rd):AV:=if r.b=[]then .nils else if r.at_=0 then .sl .none 1 (bcl r.b)else .sl .none 1 (bcl r.left)
theorem slL_left(j:Nat)(r:Rd)(h:r.at_≤r.b.length):slLK 1 (rowS 1 (bcl r.b)) (some (.int .i64 (r.at_:Int))) none=some (leftV j r):=by
 unfold leftV
 by_cases hb:r.b=[]
 ·have h0:r.at_=0:=by rw[hb]at h;simpa using h
  rw[if_pos hb,hb,h0]
  rfl
 ·have hbn:¬bcl r.b=[]:=fun e=>hb ((bcl_nil _).1 e)
  rw[if_neg hb]
  have hbd:bound (some (AV.int .i64 (r.at_:Int))) 0 r.b.length=some r.at_:=by
   unfold bound
   simp only
   rw[if_pos (by omega)]
   simp
  by_cases h0:r.at_=0
  ·simp[rowS,hbn,slLK,bound,h0]
  ·have e:((bcl r.b).take r.b.length).drop r.at_=bcl r.left:=by
    unfold bcl Rd.left
    rw[List.take_of_length_le (by simp),List.map_drop]
   simp[rowS,hbn,slLK,hbd,h0,e,bound,lent,h]
theorem left_give(j:Nat)(r:Rd)(S:St):∃v,giveArg S (leftV j r)=some v∧norm v=encBs r.left:=by
 unfold leftV
 split
 ·refine⟨.nils,rfl, ?_⟩
  rename_i h
  have:r.left=[]:=by unfold Rd.left;rw[h];simp
  rw[this];rfl
 ·split
  ·rename_i h h0
   have:r.left=r.b:=by unfold Rd.left;rw[h0];simp
   rw[this]
   refine⟨.sl .none 1 (bcl r.b),rfl, ?_⟩
   cases r.b<;>rfl
  ·refine⟨.sl .none 1 (bcl r.left),rfl, ?_⟩
   cases r.left<;>rfl
theorem left_box(j:Nat)(r:Rd):boxOf (leftV j r)=none:=by
 unfold leftV;split
 ·rfl
 ·split<;>rfl
theorem call_left{j:Nat}{r:Rd}{g:FuncId}{caps:List AV}{S S1:St}{n c:Int}(hc:∀x∈caps,capOk x)(hp:nk.prim g=none)(hr:rawF g=false)(hk:nk.keep g=false)
 (hG:DF lib nk g (encBs r.left::caps) S=some (.tup [.int .i64 n,.int .i64 c],S1)):
 callK (viaK nk (DF lib nk)) [] S (.fn g [] caps) [leftV j r]=some (.tup [.int .i64 n,.int .i64 c],[],S1):=by
 obtain⟨v,h1,h2⟩:=left_give j r S
 have hl:lockAll S (leftV j r::caps)=S:=by
  have e:lockOne S (leftV j r)=S:=by unfold lockOne;rw[left_box]
  show lockAll (lockOne S (leftV j r)) caps=S
  rw[e,caps_lock S caps hc]
 have hu:unlockAll S S1 (leftV j r::caps)=S1:=by
  have e:unlockOne S S1 (leftV j r)=S1:=by unfold unlockOne;rw[left_box]
  show unlockAll S (unlockOne S S1 (leftV j r)) caps=S1
  rw[e,caps_unlock S S1 caps hc]
 have hm:(leftV j r::caps).mapM (giveArg S)=some (v::caps):=by
  rw[List.mapM_cons,h1,caps_give S caps hc]
  rfl
 unfold callK calleeK
 simp only[List.nil_append,List.cons_append]
 rw[if_neg (by rw[hr];decide),hm,hl]
 simp only[viaK,hp,hk,Bool.false_eq_true,if_false]
 rw[List.map_cons,caps_norm caps hc,h2]
 simp[hG,hu]
 exact⟨rfl,rfl⟩
section
variable{S S1:St}{j:Nat}{r:Rd}(hS:S[j]? =some (rdB j r))
include hS in
theorem F_field_err(f:AV)(he:r.err≠none):DF lib nk 45 [.ptr j 0,f] S=some (.tup [],S):=by
 have h2:=rd_ld2 hS
 cases hx:r.err with
 |none=>exact absurd hx he
 |some x=>
  rw[hx]at h2
  have e1:evBinE .neq (.ifc kts_0) true (errAt x.1 x.2) .nili=some (.bool true):=rfl
  rw[run_pack_Reader_field,DC_of c_pack_Reader_field.eq_1]
  simp[evBinE,evEqK,evNilCheck,h2,errV,errAt,resK,giveResL,retOf,plainRes]
include hS in
theorem F_field{g:FuncId}{caps:List AV}{n c:Nat}(he:r.err=none)(ho:r.at_≤r.b.length)(hn:r.at_+n<9223372036854775808)
 (hc:∀x∈caps,capOk x) (hp:nk.prim g=none) (hr:rawF g=false) (hk:nk.keep g=false) (hS1:S1[j]? =some (rdB j r)) (hl:S1.length=S.length)
 (hG:DF lib nk g (encBs r.left::caps) S=some (.tup [.int .i64 (n:Int),.int .i64 (c:Int)],S1)):
 DF lib nk 45 [.ptr j 0,.fn g [] caps] S=some (.tup [],S1.set j (rdB j (if c=0 then r.go n else r.fail c))):=by
 have h0:=rd_ld0 hS
 have h1:=rd_ld1 hS
 have h2:=rd_ld2 hS
 have h1':=rd_ld1 hS1
 have hst:=rd_st1 hS1 (r.at_+n) [] S.length
 have hs:=slL_left j r ho
 have hcall:=call_left (j:=j) (r:=r) hc hp hr hk hG
 have hw:IntKind.wrap .i64 ((r.at_:Int)+(n:Int))=(r.at_:Int)+(n:Int):=wrap64 (by omega)
 have tk:∀b,(S1.set j b).take S.length=S1.set j b:=fun b=>List.take_of_length_le (by simp[hl])
 rw[he]at h2
 rw[run_pack_Reader_field,DC_of c_pack_Reader_field.eq_1]
 by_cases hc0:c=0
 ·rw[if_pos hc0]
  subst hc0
  simp at hcall hst
  simp[evBinE,evEqK,evNilCheck,h0,h1,h2,h1',errV,hs,hcall,hw,hst,tk,resK,giveResL,retOf,plainRes,Rd.go]
  done
 ·rw[if_neg hc0]
  have hf:=F_Reader_Fail hS1 c hc0
  simp[evBinE,evEqK,evNilCheck,h0,h1,h2,h1',errV,hs,hcall,hw,hst,tk,hc0,hf,resK,giveResL,retOf,plainRes,Rd.go]
  done
end
end
section
section
variable{S:St}{j:Nat}{r:Rd}(hS:S[j]? =some (rdB j r))
include hS in
theorem rd_new(bs:List Box):(S++bs)[j]? =some (rdB j r):=by
 rw[List.getElem?_append_left (List.getElem?_eq_some_iff.1 hS).1]
 exact hS
include hS in
theorem set_new(bs:List Box)(b:Box):(S++bs).set j b=S.set j b++bs:=List.set_append_left _ _ (List.getElem?_eq_some_iff.1 hS).1
include hS in
theorem field_two{b0 b1 b2:Box}{g:FuncId}{caps:List AV}{n c:Nat}(he:r.err=none)(ho:r.at_≤r.b.length)(hn:r.at_+n<9223372036854775808)
 (hc:∀x∈caps,capOk x) (hp:nk.prim g=none) (hr:rawF g=false) (hk:nk.keep g=false)
 (hG:DF lib nk g (encBs r.left::caps) (S++[b2,b0])=some (.tup [.int .i64 (n:Int),.int .i64 (c:Int)],S++[b2,b1])):
 DF lib nk 45 [.ptr j 0,.fn g [] caps] (S++[b2,b0])=some (.tup [],S.set j (rdB j (if c=0 then r.go n else r.fail c))++[b2,b1]):=by
 rw[F_field (rd_new hS [b2,b0]) he ho hn hc hp hr hk (rd_new hS [b2,b1]) (by simp) hG,set_new hS]
include hS in
theorem field_two_err{b2 b0:Box}(f:AV)(he:r.err≠none):
 DF lib nk 45 [.ptr j 0,f] (S++[b2,b0])=some (.tup [],S.set j (rdB j r)++[b2,b0]):=by
 rw[F_field_err (rd_new hS [b2,b0]) f he,set_same hS]
end
theorem st_box{T:St}{k:Nat}{v w:AV}(h:T[k]? =some (.mem [v] [] false))(hw:Dat w)(hc:w.cells=[w])(tips:List (Option Nat))(nb:Nat):storeK tips nb T 1 (.ptr k 0) w=some (tips,T.set k (.mem [w] [] false)):=by
 rw[storeK_dat hw h,if_pos ⟨by rw[hc];rfl,by simp⟩,hc]
 rfl
end
section
theorem run3_Number_1(a0 a1 a2:AV)(S:St):DF lib nk 46 [a0,a1,a2] S=doneK 46 [.tmp 4,.tmp 5] S (DC lib nk c_pack_Reader_Number_1 ⟨[(0,a0),(1,a1),(2,a2)],[],S.length⟩ S):=DF_run (lib:=lib) (f:=46) (k:=k_pack_Reader_Number_1) rfl (Nat.le_of_ble_eq_true rfl) S
theorem two_box1(S:St)(b c:Box):(S++[b,c])[S.length]? =some b:=by simp
theorem two_box2(S:St)(b c:Box):(S++[b,c])[S.length+1]? =some c:=by simp
theorem two_set2(S:St)(b c d:Box):(S++[b,c]).set (S.length+1) d=S++[b,d]:=by simp
theorem two_ld1(S:St)(v:AV)(bt:List (Option Nat))(q:Bool)(c:Box):loadK (S++[.mem [v] bt q,c]) .cell (.ptr S.length 0)=some v:=by
 rw[loadK_ptr (two_box1 S _ _)]
 rfl
theorem two_ld2(S:St)(v:AV)(bt:List (Option Nat))(q:Bool)(c:Box):loadK (S++[c,.mem [v] bt q]) .cell (.ptr (S.length+1) 0)=some v:=by
 rw[loadK_ptr (two_box2 S _ _)]
 rfl
theorem tk3(a b c:Int):takeRet [] (.tup [.int .u64 a,.int .i64 b,.int .i64 c])=(.tup [.int .u64 a,.int .i64 b,.int .i64 c],[]):=rfl
theorem F_Number_1(l:Str)(S:St)(most:Nat)(v:AV)(hl:l.length<9223372036854775808):DF lib nk 46 [encBs l,.ptr S.length 0,.ptr (S.length+1) 0] (S++[.mem [.int .u64 (most:Int)] [] false,.mem [v] [] false])=match pN 0 l with
 |none=>some (.tup [.int .i64 0,.int .i64 2],S++[.mem [.int .u64 (most:Int)] [] false,.mem [.int .u64 0] [] false])
 |some (n,k)=>if most<n then some (.tup [.int .i64 0,.int .i64 15],S++[.mem [.int .u64 (most:Int)] [] false,.mem [v] [] false])else some (.tup [.int .i64 (k:Int),.int .i64 0],S++[.mem [.int .u64 (most:Int)] [] false,.mem [.int .u64 (n:Int)] [] false]):=by
 have tk:∀b c,(S++[b,c]).take (S.length+2)=S++[b,c]:=fun b c=>List.take_of_length_le (by simp)
 have hn:=fun T=>F_number l hl T
 have hld:=two_ld1 S (.int .u64 (most:Int)) [] false (.mem [v] [] false)
 rw[run3_Number_1,DC_of c_pack_Reader_Number_1.eq_1]
 cases hp:pN 0 l with
 |none=>
  rw[hp]at hn
  have hst:=st_box (two_box2 S (.mem [.int .u64 (most:Int)] [] false) (.mem [v] [] false)) (dat_int .u64 0) rfl [] (S.length+2)
  rw[two_set2]at hst
  simp[hn,tk3,numR,hst,hld,tk,resK,giveResL,retOf,plainRes]
 |some x=>
  obtain⟨n,k⟩:=x
  rw[hp]at hn
  have hst:=st_box (two_box2 S (.mem [.int .u64 (most:Int)] [] false) (.mem [v] [] false)) (dat_int .u64 (n:Int)) rfl [] (S.length+2)
  rw[two_set2]at hst
  by_cases hm:most<n
  ·have hm':((most:Int)<(n:Int))=True:=eq_true (by omega)
   simp[hn,tk3,numR,hst,hld,hm,hm',tk,resK,giveResL,retOf,plainRes]
  ·have hm':((most:Int)<(n:Int))=False:=eq_false (by omega)
   simp[hn,tk3,numR,hst,hld,hm,hm',tk,resK,giveResL,retOf,plainRes]
section
variable{S:St}{j:Nat}{r:Rd}(hS:S[j]? =some (rdB j r))(ho:r.at_≤r.b.length)(hb:r.b.length<4611686018427387904)
include hS ho hb in
theorem F_Reader_Number(most:Nat):DF lib nk 26 [.ptr j 0,.int .u64 (most:Int)] S=some (.int .u64 ((r.number most).1:Int),S.set j (rdB j (r.number most).2)):=by
 have tk:∀b c X,(S.set j X++[b,c]).take S.length=S.set j X:=fun b c X=>by rw[List.take_append_of_le_length (by simp),List.take_of_length_le (by simp)]
 have ll:∀X b v,loadK (S.set j X++[b,.mem [v] [] false]) .cell (.ptr (S.length+1) 0)=some v:=fun X b v=>by
  have:=two_ld2 (S.set j X) v [] false b
  rwa [List.length_set]at this
 have tk0:takeRet [] (.tup [])=(.tup [],[]):=rfl
 have hln:r.left.length<9223372036854775808:=by unfold Rd.left;rw[List.length_drop];omega
 rw[run_pack_Reader_Number,DC_of c_pack_Reader_Number.eq_1]
 by_cases he:r.err=none
 ·have h1:=F_Number_1 r.left S most (.int .u64 0) hln
  cases hl:pN 0 r.left with
  |none=>
   rw[hl]at h1
   have hf:=field_two (caps:=[.ptr S.length 0,.ptr (S.length+1) 0]) (n:=0) (c:=2) hS he ho (by omega) (by simp[capOk_ptr]) rfl rfl rfl h1
   have hy:r.number most=(0,r.fail 2):=by unfold Rd.number;rw[he,hl]
   simp at hf
   simp[hf,tk,tk0,ll,hy,resK,giveResL,retOf,plainRes]
  |some x=>
   obtain⟨n,k⟩:=x
   have hk:=pN_len _ _ _ _ hl
   rw[hl]at h1
   by_cases hc:most<n
   ·simp only at h1
    rw[if_pos hc]at h1
    have hf:=field_two (caps:=[.ptr S.length 0,.ptr (S.length+1) 0]) (n:=0) (c:=15) hS he ho (by omega) (by simp[capOk_ptr]) rfl rfl rfl h1
    have hy:r.number most=(0,r.fail 15):=by unfold Rd.number;rw[he,hl];simp only;rw[if_pos hc]
    simp at hf
    simp[hf,tk,tk0,ll,hy,resK,giveResL,retOf,plainRes]
   ·simp only at h1
    rw[if_neg hc]at h1
    have hf:=field_two (caps:=[.ptr S.length 0,.ptr (S.length+1) 0]) (n:=k) (c:=0) hS he ho (by omega) (by simp[capOk_ptr]) rfl rfl rfl h1
    have hy:r.number most=(n,r.go k):=by unfold Rd.number;rw[he,hl];simp only;rw[if_neg hc]
    simp at hf
    simp[hf,tk,tk0,ll,hy,resK,giveResL,retOf,plainRes]
 ·have hf:=fun b c f=>field_two_err (b2:=c) (b0:=b) hS f he
  have hy:r.number most=(0,r):=by
   unfold Rd.number
   cases hx:r.err with
   |none=>exact absurd hx he
   |some x=>rfl
  simp[hf,tk,tk0,ll,hy,resK,giveResL,retOf,plainRes]
end
end
theorem encBs_sl(l:Str):encBs l=.sl .none 1 (bcl l):=by cases l<;>rfl
theorem slL_encBs(l:Str)(a b:Nat)(ha:a≤b)(hb:b≤l.length):slLK 1 (encBs l) (some (.int .i64 (a:Int))) (some (.int .i64 (b:Int)))=some (encBs ((l.take b).drop a)):=by
 rw[encBs_sl,encBs_sl]
 have h1:bound (some (AV.int .i64 (b:Int))) l.length l.length=some b:=by
  unfold bound
  simp only
  rw[if_pos (by omega),Int.toNat_natCast]
 have h2:bound (some (AV.int .i64 (a:Int))) 0 b=some a:=by
  unfold bound
  simp only
  rw[if_pos (by omega),Int.toNat_natCast]
 have e:((bcl l).take b).drop a=bcl ((l.take b).drop a):=by simp[bcl,List.map_take,List.map_drop]
 by_cases h:a=0∧b=l.length
 ·have e2:(l.take b).drop a=l:=by rw[h.1,h.2];simp
  rw[e2]
  simp[slLK,h1,h2,h,bound]
 ·simp only[slLK,bcl_len,h1,h2]
  simp[h,lent,e]
theorem max0(n:Nat):foldMax (fun a b=>decide (a<b)) .i64 0 [.int .i64 (n:Int)]=some (.int .i64 (n:Int)):=by
 have h:(if decide ((0:Int)<(n:Int))=true then(n:Int)else 0)=(n:Int):=by
  by_cases h0:(0:Int)<(n:Int)
  ·rw[if_pos (decide_eq_true h0)]
  ·rw[if_neg (by simpa using h0)]
   omega
 show some (AV.int .i64 (if decide ((0:Int)<(n:Int))=true then(n:Int)else 0))=_
 rw[h]
theorem ld_nil(S:St)(c:Box):loadK (S++[c,wrB (S.length+1) []]) .cell (.ptr (S.length+1) 0)=some .nils:=by
 rw[loadK_ptr (show(S++[c,wrB (S.length+1) []])[S.length+1]? =some (.mem [.nils] [] false)from two_box2 S _ _)]
 rfl
theorem wr_ld(S:St)(b:Box)(s:Str):loadK (S++[b,wrB (S.length+1) s]) .cell (.ptr (S.length+1) 0)=some (rowA (S.length+1) 0 1 (bcl s)):=by
 rw[loadK_ptr (show(S++[b,wrB (S.length+1) s])[S.length+1]? =some (.mem [rowA (S.length+1) 0 1 (bcl s)] (if s=[]then[]else[some s.length]) false)from two_box2 S _ _)]
 rfl
theorem giveRes_rowA(tips:List (Option Nat))(i k sz:Nat)(es:List (List AV)):giveRes tips (rowA i k sz es)=(rowS sz es,tips):=by
 unfold rowA rowS
 split<;>rfl
theorem plain_rowS(s:Str):plainRes (rowS 1 (bcl s))=true:=by
 unfold rowS
 split
 ·rfl
 ·exact plainEs_bcl s
theorem notTup_rowA(i k sz:Nat)(es:List (List AV)):notTup (rowA i k sz es)=true:=by
 unfold rowA
 split<;>rfl
theorem normr_rowA(i k sz:Nat)(es:List (List AV)):normr (rowA i k sz es)=rowA i k sz es:=by
 unfold rowA
 split<;>rfl
section
theorem run3_Bytes_1(a0 a1 a2:AV)(S:St):DF lib nk 48 [a0,a1,a2] S=doneK 48 [.tmp 4,.tmp 5] S (DC lib nk c_pack_Reader_Bytes_1 ⟨[(0,a0),(1,a1),(2,a2)],[],S.length⟩ S):=DF_run (lib:=lib) (f:=48) (k:=k_pack_Reader_Bytes_1) rfl (Nat.le_of_ble_eq_true rfl) S
def bytR(most:Nat)(l:Str):Nat × Nat × Str:=match pN 0 l with
 |none=>(0,2,[])
 |some (n,k)=>if most<n then(0,3,[])else if l.length -k<n then(0,2,[])else(k+n,0,(l.drop k).take n)
theorem F_Bytes_1(l:Str)(S:St)(most:Nat)(hm:most<4611686018427387904)(hl:l.length≤1073741824):DF lib nk 48 [encBs l,.ptr S.length 0,.ptr (S.length+1) 0] (S++[.mem [.int .i64 (most:Int)] [] false,wrB (S.length+1) []])=
 some (.tup [.int .i64 ((bytR most l).1:Int),.int .i64 ((bytR most l).2.1:Int)],S++[.mem [.int .i64 (most:Int)] [] false,wrB (S.length+1) (bytR most l).2.2]):=by
 have tk:∀b c,(S++[b,c]).take (S.length+2)=S++[b,c]:=fun b c=>List.take_of_length_le (by simp)
 have hld:=two_ld1 S (.int .i64 (most:Int)) [] false (wrB (S.length+1) [])
 have hld2:=ld_nil S (.mem [.int .i64 (most:Int)] [] false)
 have hmx:=max0 most
 have hw:IntKind.wrap .u64 (most:Int)=(most:Int):=by show(most:Int)%18446744073709551616=_;omega
 have hn:=fun T=>F_number l (by omega) T
 rw[run3_Bytes_1,DC_of c_pack_Reader_Bytes_1.eq_1]
 cases hp:pN 0 l with
 |none=>
  rw[hp]at hn
  have hy:bytR most l=(0,2,[]):=by unfold bytR;rw[hp]
  simp[hn,tk3,numR,hld,hy,tk,resK,giveResL,retOf,plainRes]
 |some x=>
  obtain⟨n,k⟩:=x
  have hk:=pN_len _ _ _ _ hp
  have hnl:=parse_lt hp
  rw[hp]at hn
  by_cases h1:most<n
  ·have h1':((most:Int)<(n:Int))=True:=eq_true (by omega)
   have hy:bytR most l=(0,3,[]):=by unfold bytR;rw[hp];simp only;rw[if_pos h1]
   simp[hn,tk3,numR,hld,hmx,hw,h1,h1',hy,tk,resK,giveResL,retOf,plainRes]
  ·have h1':((most:Int)<(n:Int))=False:=eq_false (by omega)
   have hw1:IntKind.wrap .i64 ((l.length:Int) -(k:Int))=((l.length -k:Nat):Int):=by rw[wrap64 (by omega)];omega
   have hw2:IntKind.wrap .u64 ((l.length -k:Nat):Int)=((l.length -k:Nat):Int):=by show((l.length -k:Nat):Int)%18446744073709551616=_;omega
   have hw3:IntKind.wrap .i64 (n:Int)=(n:Int):=wrap64 (by omega)
   have hw4:IntKind.wrap .i64 ((k:Int)+(n:Int))=((k+n:Nat):Int):=by rw[wrap64 (by omega)];omega
   by_cases h2:l.length -k<n
   ·have hy:bytR most l=(0,2,[]):=by unfold bytR;rw[hp];simp only;rw[if_neg h1,if_pos h2]
    have h2':(((l.length -k:Nat):Int)<(n:Int))=True:=eq_true (by omega)
    generalize l.length -k=z at*
    simp[hn,tk3,numR,hld,hmx,hw,h1,h1',hw1,hw2,h2,h2',hy,tk,resK,giveResL,retOf,plainRes]
   ·have hy:bytR most l=(k+n,0,(l.drop k).take n):=by unfold bytR;rw[hp];simp only;rw[if_neg h1,if_neg h2]
    have h2':(((l.length -k:Nat):Int)<(n:Int))=False:=eq_false (by omega)
    have hs:=slL_encBs l k (k+n) (by omega) (by omega)
    have ed:(l.take (k+n)).drop k=(l.drop k).take n:=by rw[List.drop_take];congr 1;omega
    rw[ed]at hs
    obtain⟨v1,t1,S1,t2,w1,w2⟩:=wr_app (b:=(l.drop k).take n) (two_box2 S (.mem [.int .i64 (most:Int)] [] false) (wrB (S.length+1) [])) (by simp;omega)
    have e:rowA (S.length+1) 0 1 (bcl [])=.nils:=rfl
    rw[e]at w1
    rw[two_set2,List.nil_append]at w2
    generalize l.length -k=z at*
    generalize k+n=kn at*
    simp[hn,tk3,numR,hld,hld2,hmx,hw,h1,h1',hw1,hw2,hw3,hw4,h2,h2',hs,w1,w2,hy,tk,resK,giveResL,retOf,plainRes]
    done
section
variable{S:St}{j:Nat}{r:Rd}(hS:S[j]? =some (rdB j r))(ho:r.at_≤r.b.length)(hb:r.b.length≤1073741824)
include hS ho hb in
theorem F_Reader_Bytes(n:Nat)(hn:n<4611686018427387904):DF lib nk 29 [.ptr j 0,.int .i64 (n:Int)] S=some (rowS 1 (bcl (r.bytes n).1),S.set j (rdB j (r.bytes n).2)):=by
 have tk:∀b c X,(S.set j X++[b,c]).take S.length=S.set j X:=fun b c X=>by rw[List.take_append_of_le_length (by simp),List.take_of_length_le (by simp)]
 have ll:∀X b s,loadK (S.set j X++[b,wrB (S.length+1) s]) .cell (.ptr (S.length+1) 0)=some (rowA (S.length+1) 0 1 (bcl s)):=fun X b s=>by
  have:=wr_ld (S.set j X) b s
  rwa [List.length_set]at this
 have tk0:takeRet [] (.tup [])=(.tup [],[]):=rfl
 have wr0:Box.mem [.nils] [] false=wrB (S.length+1) []:=rfl
 have hln:r.left.length≤1073741824:=by unfold Rd.left;rw[List.length_drop];omega
 rw[run_pack_Reader_Bytes,DC_of c_pack_Reader_Bytes.eq_1]
 by_cases he:r.err=none
 ·have h1:=F_Bytes_1 r.left S n hn hln
  have hbn:(bytR n r.left).1≤1073741824:=by
   unfold bytR
   cases hp:pN 0 r.left with
   |none=>simp
   |some x=>
    have:=pN_len _ _ _ _ hp
    simp only
    split
    ·simp
    ·split
     ·simp
     ·simp only
      omega
  have hf:=field_two (caps:=[.ptr S.length 0,.ptr (S.length+1) 0]) hS he ho (by omega) (by simp[capOk_ptr]) rfl rfl rfl h1
  have hy:r.bytes n=((bytR n r.left).2.2,if(bytR n r.left).2.1=0 then r.go (bytR n r.left).1 else r.fail (bytR n r.left).2.1):=by
   unfold Rd.bytes bytR
   rw[he]
   simp only
   cases hp:pN 0 r.left with
   |none=>rfl
   |some x=>
    simp only
    split
    ·rfl
    ·split<;>rfl
  rw[hy]
  simp[wr0,hf,tk,tk0,ll,giveRes_rowA,plain_rowS,notTup_rowA,normr_rowA]
  done
 ·have hf:=fun b c f=>field_two_err (b2:=c) (b0:=b) hS f he
  have hy:r.bytes n=([],r):=by
   unfold Rd.bytes
   cases hx:r.err with
   |none=>exact absurd hx he
   |some x=>rfl
  simp[wr0,hf,tk,tk0,ll,hy,giveRes_rowA,plain_rowS,notTup_rowA,normr_rowA]
  done
end
end
section
section
variable{S:St}{j:Nat}{r:Rd}(hS:S[j]? =some (rdB j r))
include hS in
theorem F_Reader_Err:DF lib nk 28 [.ptr j 0] S=some (errV r.err,S):=by
 have h2:=rd_ld2 hS
 rw[run_pack_Reader_Err,DC_of c_pack_Reader_Err.eq_1]
 cases he:r.err with
 |none=>
  rw[he]at h2
  simp[evBinE,evEqK,evNilCheck,h2,errV,notTup,normr,giveRes,plainRes,plain]
 |some x=>
  rw[he]at h2
  simp[evBinE,evEqK,evNilCheck,h2,errV,errAt,notTup,normr,giveRes,plainRes,plain,plainL]
variable(ho:r.at_≤r.b.length)(hb:r.b.length≤1073741824)
end
end
section
theorem ltEs_bcl(m:Nat)(q:Nat→Bool):∀l:Str,ltEs m q (bcl l)=true
 |[]=>rfl
 |c::l=>by
  show(ltL m q [cellB c]&&ltEs m q (bcl l))=true
  rw[ltEs_bcl m q l]
  rfl
theorem F_NewReader(b:Str)(hl:b.length≤1073741824)(S:St):DF lib nk 25 [encBs b] S=some (.ptr S.length 0,S++[rdB S.length ⟨b,0,none⟩]):=by
 rw[run_pack_NewReader,DC_of c_pack_NewReader.eq_1]
 by_cases hb:b=[]
 ·subst hb
  have e:appendK 1 [] S .nils (encBs [])=some (.nils,[],S):=rfl
  have er:rdB S.length ⟨[],0,none⟩=.mem [.nils,.int .i64 0,.nili] [] false:=rfl
  simp[e,er,fillK,splice,strip,isVal,nfa,nf,AV.cells,ltEs_bcl,notTup,normr,giveRes,plainRes,plain,resB,fineRes,fine1,boxesFine,ltL,lt,ltEs,rlt]
  done
 ·have he:=elems_encBs S b hb
  have hb0:¬b.length=0:=by cases b<;>simp at hb⊢
  have hbn:¬bcl b=[]:=fun e=>hb ((bcl_nil _).1 e)
  have e:appendK 1 [] S .nils (encBs b)=some (.sl (.fr 0) 1 (bcl b),[some b.length],S):=by
   unfold appendK
   rw[he]
   simp[hb,hl]
  have hp:plainEs (bcl b)=true:=plainEs_bcl b
  have er:rdB S.length ⟨b,0,none⟩=.mem [.sl .none 1 (bcl b),.int .i64 0,.nili] [] false:=by simp[rdB,rowS,hbn,errV]
  simp[e,er,fillK,splice,strip,isVal,nfa,nf,AV.cells,ltEs_bcl,notTup,normr,giveRes,plainRes,plain,resB,fineRes,fine1,boxesFine,ltL,lt,ltEs,rlt,hp]
  done
theorem F_First(e:Option (Nat × Nat))(c p:Nat)(S:St):DF lib nk 49 [.sl .none 1 [[errV e],[errAt c p]]] S=some (match e with|none=>errAt c p|some x=>errAt x.1 x.2,S):=by
 have ix0:ixLK 1 (.sl .none 1 [[errV e],[errAt c p]]) (.int .i64 0)=some (.rptr .none [errV e] 0):=rfl
 have ix1:ixLK 1 (.sl .none 1 [[errV e],[errAt c p]]) (.int .i64 1)=some (.rptr .none [errAt c p] 0):=rfl
 have ll:lenLK (.sl .none 1 [[errV e],[errAt c p]])=some (.int .i64 2):=rfl
 have b1:∀c p,evBinE .neq (.ifc kts_0) true (errAt c p) .nili=some (.bool true):=fun _ _=>rfl
 have b0:evBinE .neq (.ifc kts_0) true .nili .nili=some (.bool false):=rfl
 have l1:∀c p,loadK S .cell (.rptr .none [errAt c p] 0)=some (errAt c p):=fun _ _=>rfl
 have l0:loadK S .cell (.rptr .none [.nili] 0)=some .nili:=rfl
 have wi1:IntKind.wrap .i64 1=1:=rfl
 have g1:∀c p,notTup (errAt c p)=true:=fun _ _=>rfl
 have g2:∀c p,normr (errAt c p)=errAt c p:=fun _ _=>rfl
 have g3:∀t c p,giveRes t (errAt c p)=(errAt c p,t):=fun _ _ _=>rfl
 have g4:∀c p,plainRes (errAt c p)=true:=fun _ _=>rfl
 rw[run_fault_First,DC_of c_fault_First.eq_1]
 generalize hA:AV.sl .none 1 [[errV e],[errAt c p]]=A at*
 simp[ll]
 rw[DC_keep_of l_fault_First_0.eq_1]
 simp
 rw[DC_loop',DC_of l_fault_First_0.eq_1]
 cases e with
 |some x=>
  simp only[errV]at ix0
  simp[ix0,l1,b1,g1,g2,g3,g4]
  done
 |none=>
  simp only[errV]at ix0
  simp[ix0,l0,b0,wi1]
  rw[DC_keep_of l_fault_First_0.eq_1]
  simp
  rw[DC_loop',DC_of l_fault_First_0.eq_1]
  simp[ix1,l1,b1,wi1,g1,g2,g3,g4]
  done
section
variable{S:St}{j:Nat}{r:Rd}(hS:S[j]? =some (rdB j r))(ho:r.at_≤r.b.length)(hb:r.b.length≤1073741824)
def Rd.endE(r:Rd):Option (Nat × Nat):=if r.at_<r.b.length then(r.fail 2).err else r.err
include hS ho hb in
theorem F_Reader_End:DF lib nk 30 [.ptr j 0] S=some (errV r.endE,S):=by
 have h0:=rd_ld0 hS
 have h1:=rd_ld1 hS
 have h2:=rd_ld2 hS
 have ll:lenLK (rowS 1 (bcl r.b))=some (.int .i64 (r.b.length:Int)):=by
  unfold rowS
  split
  ·rename_i h
   rw[(bcl_nil _).1 h]
   rfl
  ·show some (AV.int .i64 ((bcl r.b).length:Int))=_
   rw[bcl_len]
 have he:=F_Reader_Err hS
 have hw:=F_fault_Wrap 2 r.at_ S
 have hf:=F_First r.err 2 r.at_ S
 have mk:mkiK 55 (.int .i64 2)=some (.ifc 55 (.int .i64 2)):=rfl
 rw[run_pack_Reader_End,DC_of c_pack_Reader_End.eq_1]
 by_cases h:r.at_<r.b.length
 ·have h':((r.at_:Int)<(r.b.length:Int))=True:=eq_true (by omega)
  have hE:r.endE=(r.fail 2).err:=by unfold Rd.endE;rw[if_pos h]
  simp at hw
  have tr:∀c p,takeRet [] (errAt c p)=(errAt c p,[]):=fun _ _=>rfl
  have fe:fillEs 1 [[.nili],[.nili]] [(0,errV r.err),(1,errAt 2 r.at_)]=some [[errV r.err],[errAt 2 r.at_]]:=by cases r.err<;>rfl
  have ga:giveArg S (.sl .exact 1 [[errV r.err],[errAt 2 r.at_]])=some (.sl .exact 1 [[errV r.err],[errAt 2 r.at_]]):=rfl
  have gn:norm (.sl .exact 1 [[errV r.err],[errAt 2 r.at_]])=.sl .none 1 [[errV r.err],[errAt 2 r.at_]]:=rfl
  have gl:∀x,lockOne S (.sl .exact 1 x)=S:=fun _=>rfl
  have gu:∀x,unlockOne S S (.sl .exact 1 x)=S:=fun _=>rfl
  have g1:∀c p,notTup (errAt c p)=true:=fun _ _=>rfl
  have g2:∀c p,normr (errAt c p)=errAt c p:=fun _ _=>rfl
  have g3:∀t c p,giveRes t (errAt c p)=(errAt c p,t):=fun _ _ _=>rfl
  have g4:∀c p,plainRes (errAt c p)=true:=fun _ _=>rfl
  rw[hE]
  have hr:errV (r.fail 2).err=(match r.err with|none=>errAt 2 r.at_|some x=>errAt x.1 x.2):=by
   unfold Rd.fail
   cases hx:r.err with
   |none=>rfl
   |some x=>simp only[hx];rfl
  rw[hr]
  simp[r_pack_Reader_End_0,evBinE,evEqK,evNilCheck,h0,h1,h2,ll,h,h',mk,hw,tr,fe,ga,gn,gl,gu,hf]
  cases r.err with
  |none=>simp[tr,g1,g2,g3,g4]
  |some x=>simp[tr,g1,g2,g3,g4]
 ·have h':((r.at_:Int)<(r.b.length:Int))=False:=eq_false (by omega)
  have hE:r.endE=r.err:=by unfold Rd.endE;rw[if_neg h]
  rw[hE]
  cases hx:r.err with
  |none=>
   rw[hx]at he h2
   simp[r_pack_Reader_End_0,evBinE,evEqK,evNilCheck,h0,h1,h2,ll,h,h',he,errV,notTup,normr,giveRes,plainRes,plain,takeRet,takeRes]
   done
  |some x=>
   rw[hx]at he h2
   have tr:takeRet [] (errAt x.1 x.2)=(errAt x.1 x.2,[]):=rfl
   simp[r_pack_Reader_End_0,evBinE,evEqK,evNilCheck,h0,h1,h2,ll,h,h',he,errV,tr]
   simp[errAt,notTup,normr,giveRes,plainRes,plain,plainL]
   done
end
end
theorem wr_set{S:St}{j:Nat}{o o':Str}(hS:S[j]? =some (wrB j o)):(S.set j (wrB j o'))[j]? =some (wrB j o'):=by
 have hj:=(List.getElem?_eq_some_iff.1 hS).1
 simp[hj]
theorem norm_b1(c:UInt8):norm (.sl .exact 1 [[AV.int .u8 (c.toNat:Int)]])=encBs [c]:=rfl
theorem or128(n:Nat):IntKind.wrap .u8 (BitVec.ofInt IntKind.u8.bits (IntKind.wrap .u8 (n:Int))|||BitVec.ofInt IntKind.u8.bits 128).toNat=(((UInt8.ofNat (n %128+128)).toNat:Nat):Int):=by
 have key:∀x:Fin 256,IntKind.wrap .u8 (BitVec.ofInt IntKind.u8.bits (x.val:Int)|||BitVec.ofInt IntKind.u8.bits 128).toNat=((x.val %128+128:Nat):Int):=by decide+kernel
 have hw:IntKind.wrap .u8 (n:Int)=((n %256:Nat):Int):=by
  show(n:Int)%256=_
  omega
 have:=key ⟨n %256,Nat.mod_lt _ (by decide)⟩
 rw[hw,this]
 have e:(UInt8.ofNat (n %128+128)).toNat=n %128+128:=by rw[UInt8.toNat_ofNat'];omega
 rw[e]
 congr 1
 simp only
 omega
theorem numB_lt{n:Nat}(h:n<128):numB n=[UInt8.ofNat n]:=by unfold numB;rw[if_pos h]
theorem numB_ge{n:Nat}(h:¬n<128):numB n=UInt8.ofNat (n %128+128)::numB (n/128):=by
 conv=>lhs;unfold numB
 rw[if_neg h]
theorem L_Writer_Number{j nb:Nat}:∀(m n:Nat)(out:Str)(S:St),n<m→n<18446744073709551616→S[j]? =some (wrB j out)→out.length+(numB n).length≤1073741824→
 ∃(pre:Str)(n':Nat),n'<128∧numB n=pre++[UInt8.ofNat n']∧DC lib nk (.loop l_pack_Writer_Number_0) ⟨[(0,.ptr j 0),(1,.int .u64 (n:Int))],[],nb⟩ S=some (.exit 0,⟨[(0,.ptr j 0),(1,.int .u64 (n':Int))],[],nb⟩,S.set j (wrB j (out++pre))):=by
 intro m
 induction m with
 |zero=>intro n out S h;omega
 |succ m ih=>
  intro n out S hm hn hS hl
  by_cases h:n<128
  ·refine⟨[],n,h,by rw[numB_lt h];rfl, ?_⟩
   have h':¬(128:Int)≤n:=by omega
   have hn':¬128≤n:=by omega
   have ss:S.set j (wrB j (out++[]))=S:=by
    rw[List.append_nil]
    obtain⟨a,e⟩:=List.getElem?_eq_some_iff.1 hS
    rw[←e,List.set_getElem_self]
   rw[DC_loop',DC_of l_pack_Writer_Number_0.eq_1,ss]
   simp[h',hn']
  ·have hge:=numB_ge h
   rw[hge]at hl
   simp at hl
   have hr:=F_Writer_Raw hS [UInt8.ofNat (n %128+128)] (by simp;omega)
   obtain⟨pre,n',a1,a2,a3⟩:=ih (n/128) (out++[UInt8.ofNat (n %128+128)]) (S.set j (wrB j (out++[UInt8.ofNat (n %128+128)]))) (by omega) (by omega) (wr_set hS) (by simp;omega)
   refine⟨UInt8.ofNat (n %128+128)::pre,n',a1,by rw[hge,a2];rfl, ?_⟩
   have h':(128:Int)≤n:=by omega
   have hn':128≤n:=by omega
   have ho:=or128 n
   have hf:((n:Int)).fdiv 128=((n/128:Nat):Int):=by rw[Int.fdiv_eq_ediv_of_nonneg _ (by decide)];omega
   have n1:=norm_b1 (UInt8.ofNat (n %128+128))
   have tk:∀t,takeRet t (.tup [])=(.tup [],t):=fun _=>rfl
   generalize hc:UInt8.ofNat (n %128+128)=c at*
   have eo:evBinII .or .u8 (IntKind.wrap .u8 (n:Int)) .u8 128=some (.int .u8 (c.toNat:Int)):=by
    simp only[evBinII,ne_eq,not_true_eq_false,if_false]
    rw[ho]
   rw[DC_loop',DC_of l_pack_Writer_Number_0.eq_1]
   simp at a3
   simp[-evBinII,bI_geq,bI_shr,h',hn',eo,fillEs,giveArg,strip,lockOne,unlockOne,boxOf,n1,hr,tk,hf,IntKind.bits]
   rw[DC_keep_of l_pack_Writer_Number_0.eq_1]
   simp[a3]
theorem F_Writer_Number{S:St}{j:Nat}{out:Str}(hS:S[j]? =some (wrB j out))(n:Nat)(hn:n<18446744073709551616)(hl:out.length+10≤1073741824):DF lib nk 18 [.ptr j 0,.int .u64 (n:Int)] S=some (.tup [],S.set j (wrB j (out++numB n))):=by
 have h10:=numB_le10 hn
 obtain⟨pre,n',a1,a2,a3⟩:=L_Writer_Number (j:=j) (nb:=S.length) (n+1) n out S (by omega) hn hS (by omega)
 have hl2:pre.length+1≤10:=by rw[a2]at h10;simpa using h10
 have hr:=F_Writer_Raw (wr_set (o':=out++pre) hS) [UInt8.ofNat n'] (by simp;omega)
 have hw:IntKind.wrap .u8 (n':Int)=(((UInt8.ofNat n').toNat:Nat):Int):=by
  show(n':Int)%256=_
  rw[UInt8.toNat_ofNat']
  omega
 have htk:∀b,(S.set j b).take S.length=S.set j b:=fun b=>List.take_of_length_le (by simp)
 have n1:=norm_b1 (UInt8.ofNat n')
 have tk:∀t,takeRet t (.tup [])=(.tup [],t):=fun _=>rfl
 generalize UInt8.ofNat n'=c at*
 rw[run_pack_Writer_Number,DC_of c_pack_Writer_Number.eq_1,a2]
 simp at hr
 simp[a3,hw,fillEs,giveArg,strip,lockOne,unlockOne,boxOf,n1,hr,tk,htk,resK,giveResL,retOf,plainRes]
theorem F_Writer_Bytes{S:St}{j:Nat}{out:Str}(hS:S[j]? =some (wrB j out))(b:Str)(hl:out.length+b.length+10≤1073741824):DF lib nk 20 [.ptr j 0,encBs b] S=some (.tup [],S.set j (wrB j (out++bytesB b))):=by
 have h1:=F_Writer_Number hS b.length (by omega) (by omega)
 have h10:=numB_le10 (n:=b.length) (by omega)
 have h2:=F_Writer_Raw (wr_set (o':=out++numB b.length) hS) b (by simp;omega)
 have htk:∀b,(S.set j b).take S.length=S.set j b:=fun b=>List.take_of_length_le (by simp)
 have tk:∀t,takeRet t (.tup [])=(.tup [],t):=fun _=>rfl
 have hw:IntKind.wrap .u64 (b.length:Int)=(b.length:Int):=by show(b.length:Int)%18446744073709551616=_;omega
 rw[run_pack_Writer_Bytes,DC_of c_pack_Writer_Bytes.eq_1]
 simp at h2
 simp[h1,h2,hw,tk,htk,resK,giveResL,retOf,plainRes,bytesB]
theorem F_Writer_Out{S:St}{j:Nat}{out:Str}(hS:S[j]? =some (wrB j out))(hl:out.length≤1073741824):DF lib nk 21 [.ptr j 0] S=some (if out=[]then .nils else .sl .fresh 1 (bcl out),S):=by
 rw[run_pack_Writer_Out,DC_of c_pack_Writer_Out.eq_1]
 have hld:loadK S .cell (.ptr j 0)=some (rowA j 0 1 (bcl out)):=by rw[loadK_ptr hS];rfl
 by_cases ho:out=[]
 ·subst ho
  have e:appendK 1 [] S .nils (rowA j 0 1 (bcl []))=some (.nils,[],S):=rfl
  simp[hld,e,evNilCheck,notTup,normr,giveRes,plainRes,plain]
 ·have hbn:¬bcl out=[]:=fun e=>ho ((bcl_nil _).1 e)
  have hp:plainEs (bcl out)=true:=plainEs_bcl out
  have e:appendK 1 [] S .nils (rowA j 0 1 (bcl out))=some (.sl (.fr 0) 1 (bcl out),[some out.length],S):=by
   simp[appendK,rowA,hbn,elemsOf,hl,ho]
  have g:=giveRes_fr [some out.length] 0 1 (bcl out) (by simp)
  simp[hld,e,evNilCheck,g,ho,hp]
theorem tk_unit(t:List (Option Nat)):takeRet t (.tup [])=(.tup [],t):=rfl
theorem elems_encBs'(S:St)(b:Str):∃z,elemsOf S (encBs b)=some (z,bcl b)∧(bcl b≠[]→z=1):=⟨1,by cases b<;>rfl,fun _=>rfl⟩
def ResB(r:AV)(s:Str):Prop:=ResG 1 r (bcl s)∧plainRes r=true
def bcs(x:List UInt8):List (List AV):=x.map fun b=>[cellB b]
@[simp]theorem bcs_length(x:List UInt8):(bcs x).length=x.length:=by simp[bcs]
@[simp]theorem bcs_get(x:List UInt8)(i:Nat):(bcs x)[i]? =(x[i]?).map fun b=>[cellB b]:=by simp[bcs]
@[simp]theorem ixLK_bcs(r:Right)(x:List UInt8)(k:IntKind)(i:Nat):ixLK 1 (.sl r 1 (bcs x)) (.int k (i:Int))=(x[i]?).map fun b=>.rptr (lent r) [cellB b] 0:=by
  simp only[ixLK]
  rw[if_neg (by omega)]
  simp[Function.comp_def]
@[simp]theorem lenLK_bcs(r:Right)(x:List UInt8):lenLK (.sl r 1 (bcs x))=some (.int .i64 x.length):=by simp[lenLK]
theorem lk_ptr(S:St)(i o:Nat):lockOne S (.ptr i o)=S:=rfl
theorem ul_ptr(S S':St)(i o:Nat):unlockOne S S' (.ptr i o)=S':=rfl
theorem L_r01_Bytes(a b:Str)(nb:Nat)(S:St)(n:Nat)(ha:a.length=n)(hb:b.length=n)(hn:n<9223372036854775808):∀d i,i+d=n→
 DC lib nk (.loop l_dioptreref01_Bytes_0) ⟨[(0,encBs a),(1,encBs b),(5,.int .i64 (i:Nat))],[],nb⟩ S=
  if a.drop i=b.drop i then some (.exit 0,⟨[],[],nb⟩,S)else some (.ret,⟨[(4,.bool false)],[],nb⟩,S):=by
 have ln:∀s,lenLK (encBs s)=some (.int .i64 (s.length:Int)):=fun s=>by cases s<;>simp[encBs,encSl,lenLK]
 intro d
 induction d with
 |zero=>
  intro i hi
  rw[DC_loop',DC_of l_dioptreref01_Bytes_0.eq_1]
  have h3:a.drop i=[]:=List.drop_eq_nil_of_le (by omega)
  have h4:b.drop i=[]:=List.drop_eq_nil_of_le (by omega)
  have h5:¬i<n:=by omega
  simp[h3,h4,h5,ln,ha]
 |succ d ih=>
  intro i hi
  have h3:i<n:=by omega
  rw[DC_loop',DC_of l_dioptreref01_Bytes_0.eq_1]
  obtain⟨x,hx,hx'⟩:=get_of_lt' (l:=a) (i:=i) (by omega)
  obtain⟨y,hy,hy'⟩:=get_of_lt' (l:=b) (i:=i) (by omega)
  rw[drop_get hx,drop_get hy]
  have hn':=ih (i+1) (by omega)
  have hw:=wrap_succ (i:=i) (by omega)
  have ix:∀(s:Str) z,s[i]? =some z→ixLK 1 (encBs s) (.int .i64 (i:Int))=some (.rptr .none [cellB z] 0):=fun s z h=>by
   have hne:s≠[]:=by intro e;rw[e]at h;simp at h
   have e1:encBs s=.sl .none 1 (bcs s):=by cases s with
    |nil=>exact absurd rfl hne
    |cons a r=>rfl
   rw[e1,ixLK_bcs,h]
   rfl
  have ixa:=ix a x hx
  have ixb:=ix b y hy
  simp at hn' hw
  by_cases e:x=y
  ·subst e
   simp[h3,ln,ha,ixa,ixb,cellB]
   rw[DC_keep_of l_dioptreref01_Bytes_0.eq_1]
   simp[hw,hn']
  ·have e':¬x.toNat=y.toNat:=fun h=>e (UInt8.toNat_inj.1 h)
   simp[h3,ln,ha,ixa,ixb,cellB,e,e']
theorem F_r01_Bytes(a b:Str)(hn:a.length<9223372036854775808)(S:St):DF lib nk 10 [encBs a,encBs b] S=some (.bool (decide (a=b)),S):=by
 have ln:∀s,lenLK (encBs s)=some (.int .i64 (s.length:Int)):=fun s=>by cases s<;>simp[encBs,encSl,lenLK]
 rw[run_dioptreref01_Bytes,DC_of c_dioptreref01_Bytes.eq_1]
 by_cases hl:a.length=b.length
 ·have h:=L_r01_Bytes a b S.length S a.length rfl hl.symm hn a.length 0 (by omega)
  simp at h
  simp[ln,hl]
  rw[DC_keep_of l_dioptreref01_Bytes_0.eq_1]
  by_cases e:a=b
  ·simp[e]at h
   simp[h,e]
  ·simp[e]at h
   simp[h,e]
 ·have e:a≠b:=fun e=>hl (by rw[e])
  simp[ln,hl,e]
def encL(l:List Str):AV:=encSl 1 (l.map fun b=>[encBs b])
@[simp]theorem lenLK_encL(l:List Str):lenLK (encL l)=some (.int .i64 l.length):=by simp[encL]
theorem ixL(l:List Str)(i:Nat){b:Str}(h:l[i]? =some b)(k:IntKind):ixLK 1 (encL l) (.int k (i:Int))=some (.rptr .none [encBs b] 0):=by
 simp[encL,h]
def wS:Nat→List Str→Str→(Nat × Nat)⊕Str
 |_,[],out=>.inr out
 |i,b::r,out=>if b=[]then .inl (1,i)else if 4096<b.length then .inl (3,i)else wS (i+1) r (out++bytesB b)
theorem bytesB_le4{s:Str}(h:s.length≤4096):(bytesB s).length≤10+4096:=by
 have:=numB_le10 (n:=s.length) (by omega)
 unfold bytesB
 simp
 omega
theorem wS_len:∀(l:List Str)(i:Nat)(out o:Str),wS i l out=.inr o→o.length≤out.length+l.length*4106
 |[],i,out,o,h=>by simp[wS]at h;simp[h]
 |b::r,i,out,o,h=>by
  unfold wS at h
  split at h
  ·cases h
  ·split at h
   ·cases h
   ·rename_i h1 h2
    have h3:=wS_len r (i+1) _ o h
    have h4:=bytesB_le4 (s:=b) (by omega)
    simp at h3⊢
    omega
theorem numB_ne(n:Nat):numB n≠[]:=by
 unfold numB
 split<;>simp
theorem wS_ne:∀(l:List Str)(i:Nat)(out o:Str),out≠[]→wS i l out=.inr o→o≠[]
 |[],i,out,o,h0,h=>by simp[wS]at h;rwa [←h]
 |b::r,i,out,o,h0,h=>by
  unfold wS at h
  split at h
  ·cases h
  ·split at h
   ·cases h
   ·exact wS_ne r (i+1) _ o (by simp[h0]) h
theorem L_bundle_Write(l:List Str)(hl:l.length≤64)(nb:Nat)(S:St):∀d i(out:Str),i+d=l.length→out.length≤10+i*4106→
 match wS i (l.drop i) out with
  |.inl x=>∃o,DC lib nk (.loop l_bundle_Write_0) ⟨[(4,.ptr S.length 0),(15,encL l),(16,.int .i64 l.length),(17,.int .i64 (i:Nat))],[],nb⟩ (S++[wrB S.length out])=some (.ret,⟨[(2,.nils),(3,errAt x.1 x.2)],[],nb⟩,S++[wrB S.length o])
  |.inr o=>DC lib nk (.loop l_bundle_Write_0) ⟨[(4,.ptr S.length 0),(15,encL l),(16,.int .i64 l.length),(17,.int .i64 (i:Nat))],[],nb⟩ (S++[wrB S.length out])=some (.exit 0,⟨[(4,.ptr S.length 0)],[],nb⟩,S++[wrB S.length o]):=by
 intro d
 induction d with
 |zero=>
  intro i out hi ho
  have h5:¬i<l.length:=by omega
  have h4:l.drop i=[]:=List.drop_eq_nil_of_le (by omega)
  rw[h4]
  simp only[wS]
  rw[DC_loop',DC_of l_bundle_Write_0.eq_1]
  simp[h5]
 |succ d ih=>
  intro i out hi ho
  have h3:i<l.length:=by omega
  obtain⟨b,hb,hb'⟩:=get_of_lt' (l:=l) (i:=i) h3
  have hw:=wrap_succ (i:=i) (by omega)
  have hx:=ixL l i hb
  have tkE:∀t c p,takeRet t (errAt c p)=(errAt c p,t):=fun _ _ _=>rfl
  rw[drop_get hb]
  unfold wS
  by_cases h0:b=[]
  ·have hwr:=F_fault_Wrap 1 i (S++[wrB S.length out])
   rw[if_pos h0]
   refine⟨out, ?_⟩
   rw[DC_loop',DC_of l_bundle_Write_0.eq_1]
   simp at hwr
   simp[h3,hx,h0,hwr,tkE,mkiK]
  ·rw[if_neg h0]
   by_cases h1:4096<b.length
   ·have hwr:=F_fault_Wrap 3 i (S++[wrB S.length out])
    have h1':(4096:Int)<(b.length:Int):=by omega
    rw[if_pos h1]
    refine⟨out, ?_⟩
    rw[DC_loop',DC_of l_bundle_Write_0.eq_1]
    simp at hwr
    simp[h3,hx,h0,h1,h1',hwr,tkE,mkiK]
   ·have h1':¬(4096:Int)<(b.length:Int):=by omega
    rw[if_neg h1]
    have hS:(S++[wrB S.length out])[S.length]? =some (wrB S.length out):=by simp
    have hb2:=F_Writer_Bytes hS b (by omega)
    have h4:=bytesB_le4 (s:=b) (by omega)
    have hn:=ih (i+1) (out++bytesB b) (by omega) (by simp;omega)
    have tk:∀t,takeRet t (.tup [])=(.tup [],t):=fun _=>rfl
    have step:∀r,DC lib nk (.loop l_bundle_Write_0) ⟨[(4,.ptr S.length 0),(15,encL l),(16,.int .i64 l.length),(17,.int .i64 ((i+1:Nat):Int))],[],nb⟩ (S++[wrB S.length (out++bytesB b)])=r→DC lib nk (.loop l_bundle_Write_0) ⟨[(4,.ptr S.length 0),(15,encL l),(16,.int .i64 l.length),(17,.int .i64 (i:Nat))],[],nb⟩ (S++[wrB S.length out])=r:=by
     intro r hn
     rw[DC_loop',DC_of l_bundle_Write_0.eq_1]
     simp at hw hn hb2
     simp[h3,hx,h0,h1,h1',hb2,tk]
     rw[DC_keep_of l_bundle_Write_0.eq_1]
     simp[hw,hn]
    revert hn
    cases wS (i+1) (l.drop (i+1)) (out++bytesB b)with
    |inl x=>exact fun⟨o,hn⟩=>⟨o,step _ hn⟩
    |inr o=>exact fun hn=>step _ hn
theorem F_bundle_Write(l:List Str)(hl:l.length<9223372036854775808)(S:St):∃r,DF lib nk 7 [encL l] S=some (r,S)∧
 (64<l.length→r=.tup [.nils,.ifc 55 (.int .i64 3)])∧(l.length≤64→match wS 0 l (numB l.length)with
  |.inl x=>r=.tup [.nils,errAt x.1 x.2]
  |.inr o=>r=.tup [.sl .fresh 1 (bcl o),.nili]):=by
 rw[run_bundle_Write,DC_of c_bundle_Write.eq_1]
 by_cases h:64<l.length
 ·have h':(64:Int)<(l.length:Int):=by omega
  refine⟨.tup [.nils,.ifc 55 (.int .i64 3)], ?_,fun _=>rfl,fun h1=>absurd h1 (by omega)⟩
  simp[h,h',mkiK]
  exact⟨rfl,rfl⟩
 ·have h':¬(64:Int)<(l.length:Int):=by omega
  have hN:∀s,(S++[wrB S.length s])[S.length]? =some (wrB S.length s):=fun s=>by simp
  have hn:=F_Writer_Number (hN []) l.length (by omega) (by simp)
  have wl:IntKind.wrap .u64 (l.length:Int)=(l.length:Int):=by show(l.length:Int)%18446744073709551616=_;omega
  have n10:=numB_le10 (n:=l.length) (by omega)
  have hL:=L_bundle_Write l (by omega) S.length S l.length 0 (numB l.length) (by omega) (by omega)
  have w0:S++[Box.mem [.nils] [] false]=S++[wrB S.length []]:=rfl
  have tk:∀t,takeRet t (.tup [])=(.tup [],t):=fun _=>rfl
  rw[List.drop_zero]at hL
  have out:∀s,wS 0 l (numB l.length)=.inr s→s≠[]∧s.length≤1073741824:=fun s e=>⟨wS_ne l 0 _ s (numB_ne _) e,by have:=wS_len l 0 _ s e;omega⟩
  cases hs:wS 0 l (numB l.length)with
  |inl x=>
   rw[hs]at hL
   obtain⟨o,hL⟩:=hL
   refine⟨.tup [.nils,errAt x.1 x.2], ?_,fun h1=>absurd h1 h,fun _=>rfl⟩
   simp at hn hL
   simp[h',w0,wl,hn,tk]
   rw[DC_keep_of l_bundle_Write_0.eq_1]
   simp[hL]
   exact⟨⟨rfl,rfl⟩,rfl⟩
  |inr s=>
   rw[hs]at hL
   obtain⟨s0,s1⟩:=out s hs
   have ho:=F_Writer_Out (hN s) s1
   rw[if_neg s0]at ho
   refine⟨.tup [.sl .fresh 1 (bcl s),.nili], ?_,fun h1=>absurd h1 h,fun _=>rfl⟩
   simp at hn hL ho
   simp[h',w0,wl,hn,tk]
   rw[DC_keep_of l_bundle_Write_0.eq_1]
   have t1:takeRet [] (.sl .fresh 1 (bcl s))=(.sl (.fr 0) 1 (bcl s),[some s.length]):=by
    show(AV.sl (.fr 0) 1 (bcl s),[some (bcl s).length])=_
    rw[bcl_len]
   have g:=giveRes_fr [some s.length] 0 1 (bcl s) (by simp)
   have hp:plainEs (bcl s)=true:=plainEs_bcl s
   simp[hL,ho,t1,g]
   simp[notTup,plainRes,plain,hp]
section
section
variable{H:Type}{enc:TypeId × Value→H}{W:World}{base:Nat}{sp:Nat→Bool}{held:Bool}
theorem sz_u8:Tryz.prog.cellsOf 5=1:=by kernel_rfl
theorem u8_lit{k:Int}(h:(Lit.int .u8 k).wf=true):∃b:UInt8,k=(b.toNat:Int):=by
 have h2:0≤k∧k≤255:=by simpa[Lit.wf,IntKind.min,IntKind.max,IntKind.signed,IntKind.bits]using h
 refine⟨UInt8.ofNat k.toNat, ?_⟩
 have h10:(UInt8.ofNat k.toNat).toNat=k.toNat:=UInt8.toNat_ofNat_of_lt (show k.toNat<256 by omega)
 rw[h10]
 omega
theorem el_u8(n:Nat)(cs:List Value)(y:DataW H × List MemPlace)(h:DataW.trod enc Tryz.prog W base sp held n 5 cs=some y):∃b:UInt8,True∧RVL W [cellB b] cs:=by
 obtain⟨i,h2,h3,_⟩:=rd_int (P:=Tryz.prog) Tryz.underlying5 h
 subst h2
 obtain⟨b,rfl⟩:=u8_lit h3
 exact⟨b,trivial,.cons (fun _ _=>.int .u8 _) rfl .nil⟩
theorem rd_bs(n:Nat)(cs:List Value)(y:DataW H × List MemPlace)(h:DataW.trod enc Tryz.prog W base sp held n 25 cs=some y):∃b:Str,b.length<9223372036854775808∧RVL W [encBs b] cs:=by
 obtain⟨l,v,h2,h3,h4,h5⟩:=rd_slice (f:=fun b=>[cellB b]) (R:=fun _=>True) Tryz.underlying25 sz_u8 (by decide) (el_u8 _) h
 subst h2
 exact⟨l,h3,.cons h5 (by cases l<;>rfl) .nil⟩
end
end
theorem resK_nn{f:FuncId}{q v:AV}{t t':List (Option Nat)}{s:Str}(f1:notTup q=true)(f2:normr q=q)(f3:giveRes t q=(v,t'))(f5:ResB v s)(a b:Int)(S S':St):
 resK f t [q,.int .i64 a,.int .i64 b] S S'=some (.tup [v,.int .i64 a,.int .i64 b],S'.take S.length):=by
 have e:retOf (giveResL t ([q,.int .i64 a,.int .i64 b].map normr))=.tup [v,.int .i64 a,.int .i64 b]:=by
  simp only[List.map_cons,List.map_nil,f2,giveResL,f3]
  rfl
 have hp:plainRes (.tup [v,.int .i64 a,.int .i64 b])=true:=by
  have hb:=plainEs_bcl s
  rcases f5.1 with⟨_,rfl⟩|rfl|rfl<;>simp[plainRes,plain,hb]
 unfold resK
 rw[e,if_pos hp,if_pos (by simp only[List.all_cons,f1];rfl)]
theorem nilRes:ResB .nils []:=⟨.inl ⟨rfl,rfl⟩,rfl⟩
theorem q_CodeAt(c p:Nat)(S:St):DF lib nk 23 [errAt c p] S=some (.int .i64 (c:Int),S):=by
 rw[run_dioptrelaw01_Code,DC_of c_dioptrelaw01_Code.eq_1]
 simp[errAt,evBinE,evEqK,asQ,errIn,isVal,strip,giveArg,lockOne,unlockOne,boxOf,norm,normc,takeRet,takeRes]
theorem q_outerAt(c p:Nat)(S:St):DF lib nk 44 [errAt c p] S=some (.rptr .none [.int .i64 (p:Int),.ifc 55 (.int .i64 (c:Int))] 0,S):=by
 rw[run_fault_outer,DC_of c_fault_outer.eq_1]
 have hp:plainL [AV.int .i64 (p:Int),.ifc 55 (.int .i64 (c:Int))]=true:=rfl
 simp[errAt,evBinE,evEqK,asQ,errIn,isVal,strip,giveArg,lockOne,unlockOne,boxOf,norm,normc,takeRet,takeRes,hp]
 exact⟨rfl,rfl⟩
theorem eA(c p:Nat):(∀S,giveArg S (errAt c p)=some (errAt c p))∧(∀S,lockOne S (errAt c p)=S)∧(∀S S',unlockOne S S' (errAt c p)=S')∧norm (errAt c p)=errAt c p∧∀t,takeRet t (errAt c p)=(errAt c p,t):=
 ⟨fun _=>rfl,fun _=>rfl,fun _ _=>rfl,rfl,fun _=>rfl⟩
theorem cv_str(s:Str):cvBK (encBs s)=some (.str s):=by
 cases s with
 |nil=>rfl
 |cons a r=>
  show(if 1=1 then(bytesTo (bcl (a::r))).map AV.str else none)=_
  rw[if_pos rfl,bytesTo_bcl]
  rfl
theorem q_PlaceAt(c p:Nat)(S:St):DF lib nk 24 [errAt c p] S=some (.int .i64 (p:Int),S):=by
 have h:=q_outerAt c p S
 rw[run_fault_Place,DC_of c_fault_Place.eq_1]
 have tk:∀t,takeRet t (.rptr .none [.int .i64 (p:Int),.ifc 55 (.int .i64 (c:Int))] 0)=(.rptr .none [.int .i64 (p:Int),.ifc 55 (.int .i64 (c:Int))] 0,t):=fun _=>rfl
 obtain⟨e1,e2,e3,e4,e5⟩:=eA c p
 simp[h,tk,e1,e2,e3,e4,evBinE,evEqK,evNilCheck,fldK]
theorem F_Told_0(p:Int)(S:St):DF lib nk 9 [.nili,.int .i64 0,.int .i64 p] S=some (.bool true,S):=by
 rw[run_dioptrelaw02_Told,DC_of c_dioptrelaw02_Told.eq_1]
 simp[evBinE,evEqK]
theorem F_Told_at(c p:Nat)(hc:c≠0)(S:St):DF lib nk 9 [errAt c p,.int .i64 (c:Int),.int .i64 (p:Int)] S=some (.bool true,S):=by
 have h1:=q_CodeAt c p S
 have h2:=q_PlaceAt c p S
 have hc':¬(c:Int)=0:=by omega
 rw[run_dioptrelaw02_Told,DC_of c_dioptrelaw02_Told.eq_1]
 obtain⟨e1,e2,e3,e4,e5⟩:=eA c p
 have ee:evBinE .eql (.ifc kts_0) true (errAt c p) .nili=some (.bool false):=rfl
 simp[hc,hc',e1,e2,e3,e4,h1,h2,ee]
def Sm(eb:List (List AV))(b:List Str):Prop:=eb.length=b.length∧∀(i:Nat)(x:Str),b[i]? =some x→∃v,eb[i]? =some [v]∧(v=encBs x∨v=.sl .exact 1 (bcl x))
theorem L_r23_Same(a b:List Str)(eb:List (List AV))(nb:Nat)(S:St)(n:Nat)(ha:a.length=n)(hb:b.length=n)(he:Sm eb b)(hn:n<9223372036854775808):∀d i,i+d=n→
 DC lib nk (.loop l_dioptreref23_Same_0) ⟨[(0,encL a),(1,encSl 1 eb),(5,.int .i64 (i:Nat))],[],nb⟩ S=
  if a.drop i=b.drop i then some (.exit 0,⟨[],[],nb⟩,S)else some (.ret,⟨[(4,.bool false)],[],nb⟩,S):=by
 intro d
 induction d with
 |zero=>
  intro i hi
  have h3:a.drop i=[]:=List.drop_eq_nil_of_le (by omega)
  have h4:b.drop i=[]:=List.drop_eq_nil_of_le (by omega)
  have h5:¬i<n:=by omega
  rw[DC_loop',DC_of l_dioptreref23_Same_0.eq_1]
  simp[h3,h4,h5,ha]
 |succ d ih=>
  intro i hi
  have h3:i<n:=by omega
  obtain⟨x,hx,hx'⟩:=get_of_lt' (l:=a) (i:=i) (by omega)
  obtain⟨y,hy,hy'⟩:=get_of_lt' (l:=b) (i:=i) (by omega)
  have hn':=ih (i+1) (by omega)
  have hw:=wrap_succ (i:=i) (by omega)
  have ixa:=ixL a i hx
  obtain⟨v,hv,hv'⟩:=he.2 i y hy
  have ixb:∀k:IntKind,ixLK 1 (encSl 1 eb) (.int k (i:Int))=some (.rptr .none [v] 0):=fun k=>by rw[ixLK_at,hv];rfl
  have cx:=cv_str x
  have cy:cvBK v=some (.str y):=by
   rcases hv' with rfl|rfl
   ·exact cv_str y
   ·show(if 1=1 then(bytesTo (bcl y)).map AV.str else none)=_
    rw[if_pos rfl,bytesTo_bcl]
    rfl
  have sv:strip v=v:=by
   rcases hv' with rfl|rfl
   ·rw[encBs_sl];rfl
   ·rfl
  rw[drop_get hx,drop_get hy]
  rw[DC_loop',DC_of l_dioptreref23_Same_0.eq_1]
  simp at hn' hw
  by_cases e:x=y
  ·subst e
   simp[h3,ha,ixa,ixb,cx,cy,sv]
   rw[DC_keep_of l_dioptreref23_Same_0.eq_1]
   simp[hw,hn']
  ·simp[h3,ha,ixa,ixb,cx,cy,sv,e]
theorem F_r23_SameE(a b:List Str)(eb:List (List AV))(he:Sm eb b)(hn:a.length<9223372036854775808)(S:St):DF lib nk 12 [encL a,encSl 1 eb] S=some (.bool (decide (a=b)),S):=by
 have hel:(eb.length:Int)=(b.length:Int):=by rw[he.1]
 rw[run_dioptreref23_Same,DC_of c_dioptreref23_Same.eq_1]
 by_cases hl:a.length=b.length
 ·have h:=L_r23_Same a b eb S.length S a.length rfl hl.symm he hn a.length 0 (by omega)
  simp at h
  simp[hl,hel,he.1]
  rw[DC_keep_of l_dioptreref23_Same_0.eq_1]
  by_cases e:a=b
  ·simp[e]at h
   simp[h,e]
  ·simp[e]at h
   simp[h,e]
 ·have e:a≠b:=fun e=>hl (by rw[e])
  simp[hl,hel,he.1,e]
theorem F_r23_Same(a b:List Str)(hn:a.length<9223372036854775808)(S:St):DF lib nk 12 [encL a,encL b] S=some (.bool (decide (a=b)),S):=
 F_r23_SameE a b (b.map fun b=>[encBs b]) ⟨by simp,fun i x hx=>⟨encBs x,by simp[hx],.inl rfl⟩⟩ hn S
theorem Rd.fail_b(r:Rd)(c:Nat):(r.fail c).b=r.b:=by
 unfold Rd.fail
 split<;>rfl
theorem Rd.number_ok{r:Rd}(h:r.Ok)(m:Nat):(r.number m).2.Ok∧(r.number m).2.b=r.b:=by
 unfold Rd.number
 split
 ·exact⟨h,rfl⟩
 ·split
  ·exact⟨h.fail (by decide) (by decide),Rd.fail_b r 2⟩
  ·rename_i hp
   have:=pN_len _ _ _ _ hp
   split
   ·exact⟨h.fail (by decide) (by decide),Rd.fail_b r 15⟩
   ·exact⟨h.go this.2.1,rfl⟩
theorem Rd.bytes_ok{r:Rd}(h:r.Ok)(m:Nat):(r.bytes m).2.Ok∧(r.bytes m).2.b=r.b:=by
 unfold Rd.bytes
 split
 ·exact⟨h,rfl⟩
 ·split
  ·exact⟨h.fail (by decide) (by decide),Rd.fail_b r 2⟩
  ·rename_i hp
   have:=pN_len _ _ _ _ hp
   split
   ·exact⟨h.fail (by decide) (by decide),Rd.fail_b r 3⟩
   ·split
    ·exact⟨h.fail (by decide) (by decide),Rd.fail_b r 2⟩
    ·exact⟨h.go (by omega),rfl⟩
def bL:Nat→Rd→List Str→List Str × Rd
 |0,r,out=>(out,r)
 |m+1,r,out=>if r.err≠none then(out,r)else bL m (if(r.bytes 4096).1=[]then(r.bytes 4096).2.fail 2 else(r.bytes 4096).2) (out++[(r.bytes 4096).1])
def rcl(l:List Str):List (List AV):=l.map fun b=>[rowS 1 (bcl b)]
theorem plainEs_rcl:∀l:List Str,plainEs (rcl l)=true
 |[]=>rfl
 |b::l=>by
  have hp:plain (rowS 1 (bcl b))=true:=by
   unfold rowS
   split
   ·rfl
   ·exact plainEs_bcl b
  show(plainL [rowS 1 (bcl b)]&&plainEs (rcl l))=true
  rw[plainEs_rcl l]
  simp[plainL,hp]
theorem rdb_set{S:St}{j:Nat}{r:Rd}(hS:S[j]? =some (rdB j r))(r':Rd):(S.set j (rdB j r'))[j]? =some (rdB j r'):=by
 have hj:=(List.getElem?_eq_some_iff.1 hS).1
 simp[hj]
theorem tkr_rowS(tips:List (Option Nat))(sz:Nat)(es:List (List AV)):takeRet tips (rowS sz es)=(rowS sz es,tips):=by
 unfold rowS
 split<;>rfl
theorem len_rowS(b:Str):lenLK (rowS 1 (bcl b))=some (.int .i64 (b.length:Int)):=by
 unfold rowS
 split
 ·rename_i h
  rw[(bcl_nil _).1 h]
  rfl
 ·show some (AV.int .i64 ((bcl b).length:Int))=_
  rw[bcl_len]
theorem fe_rowS(b:Str):fillEs 1 [[.nils]] [(0,rowS 1 (bcl b))]=some [[rowS 1 (bcl b)]]:=by
 unfold rowS
 split
 ·rfl
 ·rfl
theorem L_bundle_Read(n j nb:Nat):∀m i(r:Rd)(outl:List Str)(out:AV)(tips:List (Option Nat))(S:St),i+m=n→n<18446744073709551616→(r.err=none→n≤64)→outl.length≤i→S[j]? =some (rdB j r)→r.Ok→r.b.length≤1073741824→OutG 1 out tips (rcl outl)→
 ∃q t,OutG 1 q t (rcl (bL m r outl).1)∧DC lib nk (.loop l_bundle_Read_0) ⟨[(4,.ptr j 0),(5,.int .u64 (n:Int)),(6,out),(7,.int .u64 (i:Int))],tips,nb⟩ S=some (.exit 0,⟨[(4,.ptr j 0),(6,q)],t,nb⟩,S.set j (rdB j (bL m r outl).2)):=by
 intro m
 induction m with
 |zero=>
  intro i r outl out tips S hi hn hr hol hS ho hb hO
  have h5:¬i<n:=by omega
  have h5':¬(i:Int)<(n:Int):=by omega
  refine⟨out,tips,hO, ?_⟩
  rw[DC_loop',DC_of l_bundle_Read_0.eq_1]
  simp[h5,h5',bL,set_same hS]
 |succ m ih=>
  intro i r outl out tips S hi hn hr hol hS ho hb hO
  have h3:i<n:=by omega
  have h3':(i:Int)<(n:Int):=by omega
  have hE:=F_Reader_Err hS
  have tkE:∀t e,takeRet t (errV e)=(errV e,t):=fun _ e=>by cases e<;>rfl
  by_cases he:r.err=none
  ·obtain⟨k1,k2⟩:=Rd.bytes_ok ho 4096
   have hy:=F_Reader_Bytes hS ho.1 hb 4096 (by omega)
   rw[show((4096:Nat):Int)=4096 from rfl]at hy
   have hw:IntKind.wrap .u64 ((i:Int)+1)=((i+1:Nat):Int):=by show((i:Int)+1)%18446744073709551616=_;omega
   have h64:=hr he
   obtain⟨o2,t2,a1,a2⟩:=hO.app (xs:=[[rowS 1 (bcl (r.bytes 4096).1)]]) (by simp) (by simp[rcl];omega) .exact (S.set j (rdB j (if(r.bytes 4096).1=[]then(r.bytes 4096).2.fail 2 else(r.bytes 4096).2)))
   have a3:OutG 1 o2 t2 (rcl (outl++[(r.bytes 4096).1])):=by simpa[rcl]using a2
   have hset:=rdb_set hS (if(r.bytes 4096).1=[]then(r.bytes 4096).2.fail 2 else(r.bytes 4096).2)
   have K:(if(r.bytes 4096).1=[]then(r.bytes 4096).2.fail 2 else(r.bytes 4096).2).Ok∧(if(r.bytes 4096).1=[]then(r.bytes 4096).2.fail 2 else(r.bytes 4096).2).b=r.b:=by
    split
    ·exact⟨k1.fail (by decide) (by decide),by rw[Rd.fail_b,k2]⟩
    ·exact⟨k1,k2⟩
   obtain⟨q,t,b1,b2⟩:=ih (i+1) _ _ o2 t2 _ (by omega) hn (fun _=>h64) (by simp;omega) hset K.1 (by rw[K.2];exact hb) a3
   refine⟨q,t,by simpa[bL,he]using b1, ?_⟩
   have tkR:=tkr_rowS tips 1 (bcl (r.bytes 4096).1)
   have ln:=len_rowS (r.bytes 4096).1
   have fe:=fe_rowS (r.bytes 4096).1
   have eb:bL (m+1) r outl=bL m (if(r.bytes 4096).1=[]then(r.bytes 4096).2.fail 2 else(r.bytes 4096).2) (outl++[(r.bytes 4096).1]):=by simp[bL,he]
   have tk:∀t,takeRet t (.tup [])=(.tup [],t):=fun _=>rfl
   have en:errV r.err=.nili:=by rw[he];rfl
   rw[eb]
   rw[DC_loop',DC_of l_bundle_Read_0.eq_1]
   simp at hw b2 a1
   by_cases hx:(r.bytes 4096).1=[]
   ·have hF:=F_Reader_Fail (rdb_set hS (r.bytes 4096).2) 2 (by decide)
    rw[if_pos hx]at a1 b2
    simp at hF
    simp only[if_pos hx]
    generalize(r.bytes 4096).1=x at*
    generalize(r.bytes 4096).2=r2 at*
    subst hx
    simp at ln b2
    simp[h3,h3',hE,en,evBinE,evEqK,hy,tkR,ln,hF,tk,fe,a1]
    rw[DC_keep_of l_bundle_Read_0.eq_1]
    simp[hw,b2]
   ·rw[if_neg hx]at a1 b2
    simp only[if_neg hx]
    generalize(r.bytes 4096).1=x at*
    generalize(r.bytes 4096).2=r2 at*
    have hx':¬(x.length:Int)=0:=fun h=>hx (List.eq_nil_of_length_eq_zero (by omega))
    simp[h3,h3',hE,en,evBinE,evEqK,hy,tkR,ln,hx,hx',tk,fe,a1]
    rw[DC_keep_of l_bundle_Read_0.eq_1]
    simp[hw,b2]
  ·refine⟨out,tips,by simp[bL,he];exact hO, ?_⟩
   have ee:evBinE .eql (.ifc kts_0) true (errV r.err) .nili=some (.bool false):=by
    cases h:r.err with
    |none=>exact absurd h he
    |some x=>rfl
   rw[DC_loop',DC_of l_bundle_Read_0.eq_1]
   simp[h3,h3',hE,tkE,ee,bL,he,set_same hS]
def bN(b:Str):Nat:=((⟨b,0,none⟩:Rd).number 18446744073709551615).1
def bR(b:Str):Rd:=if 64<bN b then((⟨b,0,none⟩:Rd).number 18446744073709551615).2.fail 3 else((⟨b,0,none⟩:Rd).number 18446744073709551615).2
def bQ(b:Str):List Str × Rd:=bL (bN b) (bR b) []
theorem Rd.number_lt(r:Rd){m:Nat}(hm:m<18446744073709551616):(r.number m).1<18446744073709551616:=by
 unfold Rd.number
 split
 ·simp
 ·split
  ·simp
  ·split
   ·simp
   ·simp only;omega
theorem bR_ok(b:Str):(bR b).Ok∧(bR b).b=b∧((bR b).err=none→bN b≤64):=by
 have ok0:(⟨b,0,none⟩:Rd).Ok:=⟨Nat.zero_le _,fun c p h=>by cases h⟩
 obtain⟨k1,k2⟩:=Rd.number_ok ok0 18446744073709551615
 unfold bR
 split
 ·exact⟨k1.fail (by decide) (by decide),by rw[Rd.fail_b,k2],fun h=>absurd h (Rd.fail_err _ _)⟩
 ·exact⟨k1,k2,fun _=>by omega⟩
theorem resK_sE{f:FuncId}{q:AV}{t:List (Option Nat)}{l:List (List AV)}(hq:OutG 1 q t l)(hp:plainEs l=true)(S S':St):
 ∃v,ResG 1 v l∧resK f t [q,.nili] S S'=some (.tup [v,.nili],S'.take S.length):=by
 obtain⟨v,t',d1,d2,d3⟩:=OutG.res hq hp
 refine⟨v,d2, ?_⟩
 rw[OutG.nr hq]at d1
 have e:retOf (giveResL t ([q,.nili].map normr))=.tup [v,.nili]:=by
  simp only[List.map_cons,List.map_nil,OutG.nr hq,giveResL,d1]
  rfl
 have hr:plainRes (.tup [v,.nili])=true:=by
  rcases d2 with⟨_,rfl⟩|rfl|rfl<;>simp[plainRes,plain,hp]
 unfold resK
 rw[e,if_pos hr,if_pos (by simp only[List.all_cons,OutG.nt hq];rfl)]
theorem bL_ok:∀(m:Nat)(r:Rd)(out:List Str),r.Ok→(bL m r out).2.Ok∧(bL m r out).2.b=r.b
 |0,r,out,h=>⟨h,rfl⟩
 |m+1,r,out,h=>by
  unfold bL
  split
  ·exact⟨h,rfl⟩
  ·obtain⟨k1,k2⟩:=Rd.bytes_ok h 4096
   have K:(if(r.bytes 4096).1=[]then(r.bytes 4096).2.fail 2 else(r.bytes 4096).2).Ok∧(if(r.bytes 4096).1=[]then(r.bytes 4096).2.fail 2 else(r.bytes 4096).2).b=r.b:=by
    split
    ·exact⟨k1.fail (by decide) (by decide),by rw[Rd.fail_b,k2]⟩
    ·exact⟨k1,k2⟩
   have:=bL_ok m _ (out++[(r.bytes 4096).1]) K.1
   exact⟨this.1,this.2.trans K.2⟩
theorem F_bundle_Read(b:Str)(hb:b.length≤1073741824)(S:St):∃v,DF lib nk 11 [encBs b] S=some (v,S)∧
 match(bQ b).2.endE with
  |some x=>v=.tup [.nils,errAt x.1 x.2]
  |none=>∃w,ResG 1 w (rcl (bQ b).1)∧v=.tup [w,.nili]:=by
 have h0:=F_NewReader b hb S
 have ok0:(⟨b,0,none⟩:Rd).Ok:=⟨Nat.zero_le _,fun c p h=>by cases h⟩
 have hN:∀r,(S++[rdB S.length r])[S.length]? =some (rdB S.length r):=fun r=>by simp
 have h1:=F_Reader_Number (hN ⟨b,0,none⟩) ok0.1 (by show b.length<4611686018427387904;omega) 18446744073709551615
 have h2:=fun r=>F_Reader_Fail (hN r) 3 (by decide)
 obtain⟨R1,R2,R3⟩:=bR_ok b
 obtain⟨q,t,a1,a2⟩:=L_bundle_Read (bN b) S.length S.length (bN b) 0 (bR b) [] .nils [] (S++[rdB S.length (bR b)]) (by omega) (Rd.number_lt _ (by decide)) R3 (by simp) (hN _) R1 (by rw[R2];exact hb) (.inl ⟨rfl,rfl⟩)
 have QO:=bL_ok (bN b) (bR b) [] R1
 have QB:(bQ b).2.b=b:=QO.2.trans R2
 have h3:=F_Reader_End (hN (bQ b).2) QO.1.1 (by rw[QB];exact hb)
 have hset:∀r r',(S++[rdB S.length r]).set S.length (rdB S.length r')=S++[rdB S.length r']:=fun r r'=>by simp
 have tk:∀t,takeRet t (.tup [])=(.tup [],t):=fun _=>rfl
 have tkE:∀t e,takeRet t (errV e)=(errV e,t):=fun _ e=>by cases e<;>rfl
 rw[hset]at a2 h1
 rw[show((18446744073709551615:Nat):Int)=18446744073709551615 from rfl]at h1
 rw[run_bundle_Read,DC_of c_bundle_Read.eq_1]
 have gN:∀e,evBinE .neq (.ifc kts_0) true (errV e) .nili=some (.bool (decide (e≠none))):=fun e=>by cases e<;>rfl
 have tkP:∀t i o,takeRet t (.ptr i o)=(.ptr i o,t):=fun _ _ _=>rfl
 have bQe:bL (bN b) (bR b) []=bQ b:=rfl
 have nl:(bN b:Nat)<18446744073709551616:=Rd.number_lt _ (by decide)
 rw[bQe]at a1 a2
 generalize bQ b=Q at*
 by_cases hn:64<bN b
 ·have er:bR b=((⟨b,0,none⟩:Rd).number 18446744073709551615).2.fail 3:=if_pos hn
  have hn':(64:Int)<(bN b:Int):=by omega
  have h2':=h2 ((⟨b,0,none⟩:Rd).number 18446744073709551615).2
  rw[hset,←er]at h2'
  have ebN:((⟨b,0,none⟩:Rd).number 18446744073709551615).1=bN b:=rfl
  rw[ebN]at h1
  generalize bN b=n at*
  generalize bR b=R at*
  generalize((⟨b,0,none⟩:Rd).number 18446744073709551615).2=R0 at*
  simp at h2' a2
  cases he:Q.2.endE with
  |some x=>
   rw[he]at h3
   refine⟨.tup [.nils,errAt x.1 x.2], ?_,rfl⟩
   have gx:errV (some x)=errAt x.1 x.2:=rfl
   have g0:=gN (some x)
   simp only[gx]at h3 g0
   simp[h0,h1,hn,hn',h2',tk,tkP]
   rw[DC_keep_of l_bundle_Read_0.eq_1]
   simp[a2,h3,(eA x.1 x.2).2.2.2.2,g0]
   exact⟨⟨rfl,rfl⟩,rfl⟩
  |none=>
   rw[he]at h3
   obtain⟨w,w1,w2⟩:=resK_sE (f:=11) a1 (plainEs_rcl _) S (S++[rdB S.length Q.2])
   refine⟨.tup [w,.nili], ?_, ?_⟩
   rotate_left
   ·exact⟨w,w1,rfl⟩
   have gx:errV none=.nili:=rfl
   have g0:=gN none
   simp only[gx]at h3 g0
   simp[h0,h1,hn,hn',h2',tk,tkP]
   rw[DC_keep_of l_bundle_Read_0.eq_1]
   simp[a2,h3,g0,w2]
 ·have er:bR b=((⟨b,0,none⟩:Rd).number 18446744073709551615).2:=if_neg hn
  have hn':¬(64:Int)<(bN b:Int):=by omega
  have ebN:((⟨b,0,none⟩:Rd).number 18446744073709551615).1=bN b:=rfl
  rw[ebN,←er]at h1
  generalize bN b=n at*
  generalize bR b=R at*
  simp at a2
  cases he:Q.2.endE with
  |some x=>
   rw[he]at h3
   refine⟨.tup [.nils,errAt x.1 x.2], ?_,rfl⟩
   have gx:errV (some x)=errAt x.1 x.2:=rfl
   have g0:=gN (some x)
   simp only[gx]at h3 g0
   simp[h0,h1,hn,hn',tk,tkP]
   rw[DC_keep_of l_bundle_Read_0.eq_1]
   simp[a2,h3,(eA x.1 x.2).2.2.2.2,g0]
   exact⟨⟨rfl,rfl⟩,rfl⟩
  |none=>
   rw[he]at h3
   obtain⟨w,w1,w2⟩:=resK_sE (f:=11) a1 (plainEs_rcl _) S (S++[rdB S.length Q.2])
   refine⟨.tup [w,.nili], ?_, ?_⟩
   rotate_left
   ·exact⟨w,w1,rfl⟩
   have gx:errV none=.nili:=rfl
   have g0:=gN none
   simp only[gx]at h3 g0
   simp[h0,h1,hn,hn',tk,tkP]
   rw[DC_keep_of l_bundle_Read_0.eq_1]
   simp[a2,h3,g0,w2]
theorem rcl_enc(l:List Str)(h:∀x∈l,x≠[]):encSl 1 (rcl l)=encL l:=by
 have e:rcl l=l.map fun b=>[encBs b]:=by
  unfold rcl
  refine List.map_congr_left fun b hb=>?_
  have hbn:¬bcl b=[]:=fun e=>h b hb ((bcl_nil _).1 e)
  rw[rowS,if_neg hbn,encBs_sl]
 rw[e]
 rfl
def cN:Nat→Str→Nat
 |_,[]=>0
 |i,c::r=>if i<11∧128≤c.toNat then cN (i+1) r+1 else 0
def hor:Nat→Str→Nat
 |_,[]=>0
 |0,c::_=>c.toNat %128
 |k+1,c::r=>c.toNat %128+128*hor k r
def noN(i k:Nat)(s:Str):Prop:=s.length≤k∨10≤i+k∨(i+k=9∧1<(s[k]?.getD 0).toNat)∨(0<i+k∧(s[k]?.getD 0).toNat=0)
theorem pN_cN:∀(s:Str)(i:Nat),i≤10→(noN i (cN i s) s→pN i s=none)∧(¬noN i (cN i s) s→pN i s=some (hor (cN i s) s,cN i s+1))
 |[],i,hi=>⟨fun _=>rfl,fun h=>absurd (.inl (Nat.zero_le _)) h⟩
 |c::r,i,hi=>by
  have hc:=c.toNat_lt
  have hp:pN i (c::r)=if 10≤i∨(i=9∧1<c.toNat)then none
   else if 128≤c.toNat then(pN (i+1) r).map fun x=>(c.toNat -128+128*x.1,x.2+1)
   else if c.toNat=0∧0<i then none else some (c.toNat,1):=by rw[pN]
  by_cases h:128≤c.toNat
  ·have ec:cN i (c::r)=cN (i+1) r+1:=by rw[cN,if_pos ⟨by omega,h⟩]
   rw[ec,hp]
   by_cases h9:i≤8
   ·have ih:=pN_cN r (i+1) (by omega)
    have en:noN i (cN (i+1) r+1) (c::r)↔noN (i+1) (cN (i+1) r) r:=by
     unfold noN
     simp only[List.length_cons,List.getElem?_cons_succ]
     have e1:i+(cN (i+1) r+1)=i+1+cN (i+1) r:=by omega
     rw[e1]
     constructor
     ·rintro(q|q|q|q)
      ·exact .inl (by omega)
      ·exact .inr (.inl q)
      ·exact .inr (.inr (.inl q))
      ·exact .inr (.inr (.inr q))
     ·rintro(q|q|q|q)
      ·exact .inl (by omega)
      ·exact .inr (.inl q)
      ·exact .inr (.inr (.inl q))
      ·exact .inr (.inr (.inr q))
    rw[if_neg (by omega),if_pos h,en]
    refine⟨fun q=>by rw[ih.1 q];rfl,fun q=>?_⟩
    rw[ih.2 q]
    simp only[Option.map_some,hor]
    have:c.toNat -128=c.toNat %128:=by omega
    rw[this]
   ·have q:noN i (cN (i+1) r+1) (c::r):=.inr (.inl (by omega))
    refine⟨fun _=>?_,fun h=>absurd q h⟩
    rw[if_pos (by omega)]
  ·have ec:cN i (c::r)=0:=by rw[cN,if_neg (by omega)]
   rw[ec,hp]
   have en:noN i 0 (c::r)↔(10≤i∨(i=9∧1<c.toNat)∨(0<i∧c.toNat=0)):=by
    unfold noN
    simp
   rw[en]
   refine⟨fun q=>?_,fun q=>?_⟩
   ·by_cases a:10≤i∨(i=9∧1<c.toNat)
    ·rw[if_pos a]
    ·rw[if_neg a,if_neg h,if_pos (by omega)]
   ·rw[if_neg (by omega),if_neg h,if_neg (by omega)]
    simp only[hor]
    have:c.toNat %128=c.toNat:=by omega
    rw[this]
def hz:Nat→Nat→Str→Nat
 |0,n,_=>n
 |j+1,n,b=>hz j (n*128+(b[j]?.getD 0).toNat %128) b
theorem hz_cons:∀(j n:Nat)(c:UInt8)(r:Str),hz (j+1) n (c::r)=hz j n r*128+c.toNat %128
 |0,n,c,r=>by simp[hz]
 |j+1,n,c,r=>by
  rw[hz,hz_cons j _ c r,hz]
  simp
theorem hz_hor:∀(k:Nat)(b:Str),k<b.length→hz (k+1) 0 b=hor k b
 |_,[],h=>by simp at h
 |0,c::r,h=>by rw[hz_cons];simp[hz,hor]
 |k+1,c::r,h=>by
  rw[hz_cons,hz_hor k r (by simpa using h),hor]
  omega
theorem hz_mod:∀(j n:Nat)(b:Str),hz j n b %18446744073709551616=hz j (n %18446744073709551616) b %18446744073709551616
 |0,n,b=>by simp[hz]
 |j+1,n,b=>by
  rw[hz,hz,hz_mod j (n*128+_),hz_mod j (n %18446744073709551616*128+_)]
  congr 2
  omega
theorem ixB{b:Str}{i:Nat}{x:UInt8}(h:b[i]? =some x)(k:IntKind):ixLK 1 (encBs b) (.int k (i:Int))=some (.rptr .none [cellB x] 0):=by
 simp[encBs,h]
theorem L_Parse_0(b:Str)(hl:b.length<9223372036854775808)(nb:Nat)(S:St):∀d i,i+d=b.length→
 DC lib nk (.loop l_dioptreref02_Parse_0) ⟨[(0,encBs b),(4,.int .i64 (i:Nat))],[],nb⟩ S=some (.exit 0,⟨[(0,encBs b),(4,.int .i64 ((i+cN i (b.drop i):Nat):Int))],[],nb⟩,S):=by
 intro d
 induction d with
 |zero=>
  intro i hi
  have h5:¬i<b.length:=by omega
  have h4:b.drop i=[]:=List.drop_eq_nil_of_le (by omega)
  rw[DC_loop',DC_of l_dioptreref02_Parse_0.eq_1,h4]
  simp[h5,cN,r_dioptreref02_Parse_0]
 |succ d ih=>
  intro i hi
  have h3:i<b.length:=by omega
  obtain⟨x,hx,hx'⟩:=get_of_lt' (l:=b) (i:=i) h3
  have hw:=wrap_succ (i:=i) (by omega)
  have hix:=ixB hx
  have hn:=ih (i+1) (by omega)
  rw[drop_get hx]
  by_cases h11:i<11
  ·have h11':(i:Int)<11:=by omega
   by_cases h128:128≤x.toNat
   ·have h128':(128:Int)≤(x.toNat:Int):=by omega
    rw[cN,if_pos ⟨h11,h128⟩,DC_loop',DC_of l_dioptreref02_Parse_0.eq_1]
    have e:i+(cN (i+1) (b.drop (i+1))+1)=i+1+cN (i+1) (b.drop (i+1)):=by omega
    rw[e]
    simp at hw hn
    simp[h3,hix,h11,h11',h128,h128',cellB,r_dioptreref02_Parse_0]
    rw[DC_keep_of l_dioptreref02_Parse_0.eq_1]
    simp[hw,hn]
   ·have h128':¬(128:Int)≤(x.toNat:Int):=by omega
    rw[cN,if_neg (by omega),DC_loop',DC_of l_dioptreref02_Parse_0.eq_1]
    simp[h3,hix,h11,h11',h128,h128',cellB,r_dioptreref02_Parse_0]
  ·have h11':¬(i:Int)<11:=by omega
   rw[cN,if_neg (by omega),DC_loop',DC_of l_dioptreref02_Parse_0.eq_1]
   simp[h3,hix,h11,h11',cellB,r_dioptreref02_Parse_0]
theorem L_Parse_1(b:Str)(hl:b.length<9223372036854775808)(k nb:Nat)(S:St):∀j n,j≤b.length→n<18446744073709551616→
 DC lib nk (.loop l_dioptreref02_Parse_1) ⟨[(0,encBs b),(4,.int .i64 (k:Nat)),(5,.int .u64 (n:Nat)),(6,.int .i64 ((j:Nat) -1:Int))],[],nb⟩ S=
  some (.exit 2,⟨[(4,.int .i64 (k:Nat)),(5,.int .u64 ((hz j n b %18446744073709551616:Nat):Int))],[],nb⟩,S):=by
 intro j
 induction j with
 |zero=>
  intro n hj hn
  rw[DC_loop',DC_of l_dioptreref02_Parse_1.eq_1,hz,Nat.mod_eq_of_lt hn]
  simp
 |succ j ih=>
  intro n hj hn
  have h3:j<b.length:=by omega
  obtain⟨x,hx,hx'⟩:=get_of_lt' (l:=b) (i:=j) h3
  have hix:=ixB hx
  have xl:=x.toNat_lt
  have h0:(0:Int)≤(j:Int):=by omega
  have e0:(((j+1:Nat):Int) -1)=(j:Int):=by omega
  have hsub:IntKind.wrap .i64 ((j:Int) -1)=(j:Int) -1:=by
   simp[IntKind.wrap,IntKind.bits,IntKind.signed]
   split<;>omega
  have hn':=ih ((n*128+x.toNat %128)%18446744073709551616) (by omega) (Nat.mod_lt _ (by decide))
  rw[←hz_mod]at hn'
  have hm:IntKind.wrap .u64 (IntKind.wrap .u64 ((n:Int)*128)+IntKind.wrap .u64 (Int.tmod (x.toNat:Int) 128))=(((n*128+x.toNat %128)%18446744073709551616:Nat):Int):=by
   rw[Int.tmod_eq_emod_of_nonneg (by omega)]
   show(((n:Int)*128)%18446744073709551616+((x.toNat:Int)%128)%18446744073709551616)%18446744073709551616=_
   omega
  rw[DC_loop',DC_of l_dioptreref02_Parse_1.eq_1,hz,hx,e0]
  simp at hn' hm
  simp[h0,hix,cellB]
  rw[DC_keep_of l_dioptreref02_Parse_1.eq_1]
  simp[hsub,hm,hn']
def prsR(b:Str):Nat × Nat:=(pN 0 b).getD (0,0)
theorem F_r02_Parse(b:Str)(hl:b.length<9223372036854775808)(S:St):DF lib nk 51 [encBs b] S=some (.tup [.int .u64 ((prsR b).1:Int),.int .i64 ((prsR b).2:Int)],S):=by
 have h0:=L_Parse_0 b hl S.length S b.length 0 (by omega)
 have hp:=pN_cN b 0 (by decide)
 rw[List.drop_zero,Nat.zero_add]at h0
 generalize hk:cN 0 b=k at*
 rw[run_dioptreref02_Parse,DC_of c_dioptreref02_Parse.eq_1]
 unfold prsR
 by_cases h1:b.length≤k
 ·rw[hp.1 (.inl h1)]
  simp at h0
  simp
  rw[DC_keep_of l_dioptreref02_Parse_0.eq_1]
  simp[h0,h1,r_dioptreref02_Parse_1,resK,giveResL,retOf,plainRes]
 have h1':¬((b.length:Int)≤(k:Int)):=by omega
 obtain⟨x,hx,hx'⟩:=get_of_lt' (l:=b) (i:=k) (by omega)
 have hix:=ixB hx
 by_cases h2:10≤k
 ·have h2':(10:Int)≤(k:Int):=by omega
  rw[hp.1 (.inr (.inl (by omega)))]
  simp at h0
  simp
  rw[DC_keep_of l_dioptreref02_Parse_0.eq_1]
  simp[h0,h1,h1',h2,h2',r_dioptreref02_Parse_1,resK,giveResL,retOf,plainRes]
 have h2':¬(10:Int)≤(k:Int):=by omega
 have hL:=L_Parse_1 b hl k S.length S (k+1) 0 (by omega) (by decide)
 have eL:(((k+1:Nat):Int) -1)=(k:Int):=by omega
 rw[eL,hz_hor k b (by omega)]at hL
 have hw:=wrap_succ (i:=k) (by omega)
 have c9:(k=9∧1<x.toNat)∨¬(k=9∧1<x.toNat):=Classical.em _
 rcases c9 with⟨k9,x1⟩|c9
 ·subst k9
  have x1':(1:Int)<(x.toNat:Int):=by omega
  have h1n:¬(b.length:Int)≤9:=by omega
  have hix9:ixLK 1 (encBs b) (.int .i64 9)=some (.rptr .none [cellB x] 0):=hix .i64
  rw[hp.1 (.inr (.inr (.inl ⟨rfl,by rw[hx];exact x1⟩)))]
  simp at h0
  simp
  rw[DC_keep_of l_dioptreref02_Parse_0.eq_1]
  simp[h0,h1,h1n,hix9,x1,x1',cellB,r_dioptreref02_Parse_1,resK,giveResL,retOf,plainRes]
 have c0:(0<k∧x.toNat=0)∨¬(0<k∧x.toNat=0):=Classical.em _
 have hcell:∀(K:IntKind),ixLK 1 (encBs b) (.int K (k:Int))=some (.rptr .none [.int .u8 (x.toNat:Int)] 0):=hix
 have c9':k=9→¬(1:Int)<(x.toNat:Int):=fun h=>by omega
 have hix9:k=9→ixLK 1 (encBs b) (.int .i64 9)=some (.rptr .none [.int .u8 (x.toNat:Int)] 0):=fun h=>by subst h;exact hix .i64
 rcases c0 with⟨k0,x0⟩|c0
 ·have k0':(0:Int)<(k:Int):=by omega
  have x0':(x.toNat:Int)=0:=by omega
  rw[hp.1 (.inr (.inr (.inr ⟨by omega,by rw[hx];exact x0⟩)))]
  simp at h0
  simp
  rw[DC_keep_of l_dioptreref02_Parse_0.eq_1]
  by_cases k9:k=9
  ·have a:=c9' k9
   have hx9:=hix9 k9
   subst k9
   have h1n:¬(b.length:Int)≤9:=by omega
   simp[h0,h1,h1n,hx9,a,x0,x0',r_dioptreref02_Parse_1,resK,giveResL,retOf,plainRes]
  ·have k9':¬(k:Int)=9:=by omega
   simp[h0,h1,h1',h2,h2',hcell,k9,k9',k0,k0',x0,x0',r_dioptreref02_Parse_1,resK,giveResL,retOf,plainRes]
 ·have hno:¬noN 0 k b:=by
   unfold noN
   rw[hx]
   simp only[Option.getD_some]
   omega
  have hps:=hp.2 hno
  have hlt:=parse_lt hps
  rw[hps]
  rw[Nat.mod_eq_of_lt hlt]at hL
  simp at h0 hL
  simp
  rw[DC_keep_of l_dioptreref02_Parse_0.eq_1]
  simp at hw
  by_cases k9:k=9
  ·have a:=c9' k9
   have hx9:=hix9 k9
   subst k9
   have h1n:¬(b.length:Int)≤9:=by omega
   have x0:¬(x.toNat:Int)=0:=by omega
   have x0':¬x.toNat=0:=by omega
   simp at hL hw
   simp[h0,h1,h1n,hx9,a,x0,x0',r_dioptreref02_Parse_1]
   rw[DC_keep_of l_dioptreref02_Parse_1.eq_1]
   simp[hL,hw,resK,giveResL,retOf,plainRes]
  ·have k9':¬(k:Int)=9:=by omega
   by_cases k0:k=0
   ·subst k0
    simp at hL hw h1'
    simp[h0,h1,h1',r_dioptreref02_Parse_1]
    rw[DC_keep_of l_dioptreref02_Parse_1.eq_1]
    simp[hL,hw,resK,giveResL,retOf,plainRes]
   ·have k0':(0:Int)<(k:Int):=by omega
    have k0'':0<k:=by omega
    have x0:¬(x.toNat:Int)=0:=by omega
    have x0':¬x.toNat=0:=by omega
    simp[h0,h1,h1',h2,h2',hcell,k9,k9',k0',k0'',x0,x0',r_dioptreref02_Parse_1]
    rw[DC_keep_of l_dioptreref02_Parse_1.eq_1]
    simp[hL,hw,resK,giveResL,retOf,plainRes]
section
def rfB(r:Rd):Box:=.mem [encBs r.b,.int .i64 (r.at_:Int),.int .i64 ((r.err.getD (0,0)).1:Int),.int .i64 ((r.err.getD (0,0)).2:Int)] [] false
theorem slL_encBsX(l:Str)(a:Nat)(ha:a≤l.length):slLK 1 (encBs l) (some (.int .i64 (a:Int))) none=some (encBs (l.drop a)):=by
 have:=slL_encBs l a l.length ha (Nat.le_refl _)
 rw[List.take_length]at this
 rw[←this,encBs_sl]
 have h1:bound (some (AV.int .i64 (l.length:Int))) l.length l.length=some l.length:=by
  unfold bound
  simp only
  rw[if_pos (by omega),Int.toNat_natCast]
 have h2:bound none l.length l.length=some l.length:=rfl
 simp only[slLK,bcl_len,h1,h2]
section
variable{S:St}{j:Nat}{r:Rd}(hS:S[j]? =some (rfB r))
include hS in
theorem rf_ld0:loadK S .cell (.ptr j 0)=some (encBs r.b):=by rw[loadK_ptr hS];rfl
include hS in
theorem rf_ld1:loadK S .cell (.ptr j 1)=some (.int .i64 (r.at_:Int)):=by rw[loadK_ptr hS];rfl
include hS in
theorem rf_ld2:loadK S .cell (.ptr j 2)=some (.int .i64 ((r.err.getD (0,0)).1:Int)):=by rw[loadK_ptr hS];rfl
include hS in
theorem rf_ld3:loadK S .cell (.ptr j 3)=some (.int .i64 ((r.err.getD (0,0)).2:Int)):=by rw[loadK_ptr hS];rfl
include hS in
theorem rf_same:S.set j (rfB r)=S:=by
 obtain⟨h,e⟩:=List.getElem?_eq_some_iff.1 hS
 rw[←e,List.set_getElem_self]
include hS in
theorem F_rf_Left(ho:r.at_≤r.b.length):DF lib nk 52 [.ptr j 0] S=some (encBs r.left,S):=by
 have h0:=rf_ld0 hS
 have h1:=rf_ld1 hS
 have hs:=slL_encBsX r.b r.at_ ho
 have e:encBs (r.b.drop r.at_)=.sl .none 1 (bcl r.left):=encBs_sl _
 have e':encBs r.left=.sl .none 1 (bcl r.left):=encBs_sl _
 have hp:plainEs (bcl r.left)=true:=plainEs_bcl _
 rw[e]at hs
 rw[run_dioptreref02_Reader_Left,DC_of c_dioptreref02_Reader_Left.eq_1,e']
 simp[evNilCheck,h0,h1,hs,hp,notTup,normr,giveRes,plainRes,plain]
 done
end
end
section
section
variable{S:St}{j:Nat}{r:Rd}(hS:S[j]? =some (rfB r))
include hS in
theorem F_rf_Fail(hk:∀c p,r.err=some (c,p)→c≠0)(c:Nat)(hc:c≠0):DF lib nk 33 [.ptr j 0,.int .i64 (c:Int)] S=some (.tup [],S.set j (rfB (r.fail c))):=by
 have h1:=rf_ld1 hS
 have h2:=rf_ld2 hS
 have hj:=(List.getElem?_eq_some_iff.1 hS).1
 have tk:∀b,(S.set j b).take S.length=S.set j b:=fun b=>List.take_of_length_le (by simp)
 have hc':¬(c:Int)=0:=by omega
 cases he:r.err with
 |none=>
  rw[he]at h2
  have hf:r.fail c={r with err:=some (c,r.at_)}:=by unfold Rd.fail;rw[he]
  let b1:Box:=.mem [encBs r.b,.int .i64 (r.at_:Int),.int .i64 (c:Int),.int .i64 0] [] false
  have s1:storeK [] S.length S 1 (.ptr j 2) (.int .i64 (c:Int))=some ([],S.set j b1):=by
   rw[storeK_dat (dat_int _ _) hS,if_pos ⟨rfl,by simp⟩,he]
   rfl
  have hS1:(S.set j b1)[j]? =some b1:=by simp[hj]
  have s2:storeK [] S.length (S.set j b1) 1 (.ptr j 3) (.int .i64 (r.at_:Int))=some ([],S.set j (rfB {r with err:=some (c,r.at_)})):=by
   rw[storeK_dat (dat_int _ _) hS1,if_pos ⟨rfl,by simp⟩,List.set_set]
   rfl
  rw[run_dioptreref02_Reader_Fail,DC_of c_dioptreref02_Reader_Fail.eq_1,hf]
  simp at h2
  generalize b1=bb at*
  have hcn:¬c=0:=hc
  simp[evNilCheck,h1,h2,hc',hcn,s1,s2,tk,resK,giveResL,retOf,plainRes]
  done
 |some x=>
  rw[he]at h2
  have hx:¬((x.1:Int)=0):=by have:=hk x.1 x.2 he;omega
  have hxn:¬x.1=0:=hk x.1 x.2 he
  have hf:r.fail c=r:=by unfold Rd.fail;rw[he]
  have ss:=rf_same hS
  rw[run_dioptreref02_Reader_Fail,DC_of c_dioptreref02_Reader_Fail.eq_1,hf,ss]
  simp at h2
  simp[evNilCheck,h1,h2,hx,hxn,resK,giveResL,retOf,plainRes]
  done
end
end
section
section
variable{S:St}{j:Nat}{r:Rd}(hS:S[j]? =some (rfB r))
include hS in
theorem F_rf_take(n:Nat)(hn:r.at_+n≤r.b.length)(hb:r.b.length≤1073741824):∃q,ResG 1 q (bcl (r.left.take n))∧plainRes q=true∧DF lib nk 53 [.ptr j 0,.int .i64 (n:Int)] S=some (q,S.set j (rfB (r.go n))):=by
 have h0:=rf_ld0 hS
 have h1:=rf_ld1 hS
 have tk:∀b,(S.set j b).take S.length=S.set j b:=fun b=>List.take_of_length_le (by simp)
 have hs:=slL_encBs r.b r.at_ (r.at_+n) (by omega) hn
 have ed:(r.b.take (r.at_+n)).drop r.at_=r.left.take n:=by
  unfold Rd.left
  rw[List.drop_take]
  congr 1
  omega
 rw[ed]at hs
 have hx:OutG 1 (.sl .exact 1 []) [] []:=.inr (.inl rfl)
 have hll:(r.left.take n).length≤1073741824:=by
  rw[List.length_take]
  unfold Rd.left
  rw[List.length_drop]
  omega
 obtain⟨o2,t2,c1,c2⟩:=hx.appA (xs:=bcl (r.left.take n)) (x:=encBs (r.left.take n)) (S:=S) (by rw[bcl_len];simpa using hll) (elems_encBs' S _)
 rw[List.nil_append]at c2
 obtain⟨q,t3,d1,d2,d3⟩:=c2.res (plainEs_bcl _)
 refine⟨q,d2,d3, ?_⟩
 have hw:IntKind.wrap .i64 ((r.at_:Int)+(n:Int))=((r.at_+n:Nat):Int):=by rw[wrap64 (by omega)];omega
 have s1:∀tips,storeK tips S.length S 1 (.ptr j 1) (.int .i64 ((r.at_+n:Nat):Int))=some (tips,S.set j (rfB (r.go n))):=by
  intro tips
  rw[storeK_dat (dat_int _ _) hS,if_pos ⟨rfl,by simp⟩]
  rfl
 have nt:=c2.nt
 rw[c2.nr]at d1
 have nr:=c2.nr
 have fe:fillEs 1 [] []=some []:=rfl
 rw[run_dioptreref02_Reader_take,DC_of c_dioptreref02_Reader_take.eq_1]
 generalize r.at_+n=k at*
 simp[evNilCheck,h0,h1,hw,hs,fe,c1,s1,nt,nr,d1,d3,tk]
 done
end
end
section
section
variable{S:St}{j:Nat}{r:Rd}(hS:S[j]? =some (rfB r))
include hS in
theorem F_rf_End(ho:r.Ok):DF lib nk 34 [.ptr j 0] S=some (.tup [.int .i64 ((r.endE.getD (0,0)).1:Int),.int .i64 ((r.endE.getD (0,0)).2:Int)],S):=by
 have h1:=rf_ld1 hS
 have h2:=rf_ld2 hS
 have h3:=rf_ld3 hS
 have hL:=F_rf_Left hS ho.1
 have hk:∀c p,r.err=some (c,p)→c≠0:=fun c p e=>(ho.2 c p e).1
 have te:∀l,takeRet [] (encBs l)=(encBs l,[]):=fun l=>by rw[encBs_sl];rfl
 rw[run_dioptreref02_Reader_End,DC_of c_dioptreref02_Reader_End.eq_1]
 cases he:r.err with
 |some x=>
  have hE:r.endE=some x:=by
   unfold Rd.endE Rd.fail
   rw[he]
   split<;>simp[he]
  rw[he]at h2 h3
  have hx:¬((x.1:Int)=0):=by have:=hk x.1 x.2 he;omega
  have hxn:¬x.1=0:=hk x.1 x.2 he
  simp at h2 h3
  simp[evNilCheck,h1,h2,h3,hx,hxn,hE,resK,giveResL,retOf,plainRes]
  done
 |none=>
  rw[he]at h2 h3
  simp at h2 h3
  have hlen:r.left.length=r.b.length -r.at_:=by unfold Rd.left;rw[List.length_drop]
  by_cases h:r.at_<r.b.length
  ·have hE:r.endE=some (2,r.at_):=by unfold Rd.endE Rd.fail;rw[if_pos h,he]
   have hp:0<r.left.length:=by omega
   have hpi:(0:Int)<(r.left.length:Int):=by omega
   simp[evNilCheck,h1,h2,h3,hL,te,hp,hpi,hE,resK,giveResL,retOf,plainRes]
   done
  ·have hE:r.endE=none:=by unfold Rd.endE;rw[if_neg h,he]
   have hz:r.left.length=0:=by omega
   simp[evNilCheck,h1,h2,h3,hL,te,hz,hE,resK,giveResL,retOf,plainRes]
   done
end
end
section
theorem left_len(r:Rd):r.left.length=r.b.length -r.at_:=List.length_drop
section
variable{S:St}{j:Nat}{r:Rd}(hS:S[j]? =some (rfB r))
include hS in
theorem rfb_set(r':Rd):(S.set j (rfB r'))[j]? =some (rfB r'):=by
 have hj:=(List.getElem?_eq_some_iff.1 hS).1
 simp[hj]
include hS in
theorem F_rf_Number(ho:r.Ok)(hb:r.b.length≤1073741824)(most:Nat):DF lib nk 50 [.ptr j 0,.int .u64 (most:Int)] S=some (.int .u64 ((r.number most).1:Int),S.set j (rfB (r.number most).2)):=by
 have h2:=rf_ld2 hS
 have hL:=F_rf_Left hS ho.1
 have hk:∀c p,r.err=some (c,p)→c≠0:=fun c p e=>(ho.2 c p e).1
 have tk:∀b,(S.set j b).take S.length=S.set j b:=fun b=>List.take_of_length_le (by simp)
 have tk0:takeRet [] (.tup [])=(.tup [],[]):=rfl
 have te:∀l,takeRet [] (encBs l)=(encBs l,[]):=fun l=>by rw[encBs_sl];rfl
 have tp:∀t a b,takeRet t (.tup [.int .u64 a,.int .i64 b])=(.tup [.int .u64 a,.int .i64 b],t):=fun _ _ _=>rfl
 have hll:r.left.length≤r.b.length:=by unfold Rd.left;rw[List.length_drop];omega
 have hP:=F_r02_Parse r.left (by omega) S
 rw[run_dioptreref02_Reader_Number,DC_of c_dioptreref02_Reader_Number.eq_1]
 cases he:r.err with
 |some x=>
  rw[he]at h2
  have hx:¬((x.1:Int)=0):=by have:=hk x.1 x.2 he;omega
  have hxn:¬x.1=0:=hk x.1 x.2 he
  have hy:r.number most=(0,r):=by unfold Rd.number;rw[he]
  have ss:=rf_same hS
  simp at h2
  simp[evNilCheck,h2,hx,hxn,hy,ss,resK,giveResL,retOf,plainRes,notTup,normr,giveRes,plain]
 |none=>
  rw[he]at h2
  simp at h2
  cases hp:pN 0 r.left with
  |none=>
   have e0:prsR r.left=(0,0):=by unfold prsR;rw[hp];rfl
   have hf:=F_rf_Fail hS hk 2 (by decide)
   have hy:r.number most=(0,r.fail 2):=by unfold Rd.number;rw[he];simp only[hp]
   have hf2:(r.fail 2).err=some (2,r.at_):=by unfold Rd.fail;rw[he]
   have h22:=rf_ld2 (rfb_set hS (r.fail 2))
   rw[hf2]at h22
   rw[e0]at hP
   simp at hf h22 hP
   simp[evNilCheck,h2,hL,hP,hf,h22,hy,te,tp,tk,tk0,resK,giveResL,retOf,plainRes,notTup,normr,giveRes,plain]
  |some y=>
   obtain⟨n,k⟩:=y
   have hl:=pN_len _ _ _ _ hp
   have e0:prsR r.left=(n,k):=by unfold prsR;rw[hp];rfl
   rw[e0]at hP
   have k0:¬(k:Int)=0:=by omega
   have k0':¬k=0:=by omega
   by_cases hm:most<n
   ·have hm':(most:Int)<(n:Int):=by omega
    have hf:=F_rf_Fail hS hk 15 (by decide)
    have hy:r.number most=(0,r.fail 15):=by unfold Rd.number;rw[he];simp only[hp];rw[if_pos hm]
    have hf2:(r.fail 15).err=some (15,r.at_):=by unfold Rd.fail;rw[he]
    have h22:=rf_ld2 (rfb_set hS (r.fail 15))
    rw[hf2]at h22
    simp at hf h22 hP
    simp[evNilCheck,h2,hL,hP,hf,h22,hm,hm',k0,k0',hy,te,tp,tk,tk0,resK,giveResL,retOf,plainRes,notTup,normr,giveRes,plain]
   ·have hm':¬(most:Int)<(n:Int):=by omega
    have hy:r.number most=(n,r.go k):=by unfold Rd.number;rw[he];simp only[hp];rw[if_neg hm]
    obtain⟨q,a1,a2,a3⟩:=F_rf_take hS k (by have:=hl.2.1;have:=left_len r;have:=ho.1;omega) hb
    obtain⟨out,t,b1,b2⟩:=a1.take []
    simp at hP b1
    simp[evNilCheck,h2,hL,hP,hm,hm',k0,k0',a3,b1,hy,te,tp,tk,tk0,resK,giveResL,retOf,plainRes,notTup,normr,giveRes,plain]
include hS in
theorem F_rf_Bytes(ho:r.Ok)(hb:r.b.length≤1073741824)(most:Nat)(hmost:most<1073741824):∃q,ResG 1 q (bcl (r.bytes most).1)∧plainRes q=true∧DF lib nk 32 [.ptr j 0,.int .i64 (most:Int)] S=some (q,S.set j (rfB (r.bytes most).2)):=by
 have h2:=rf_ld2 hS
 have hL:=F_rf_Left hS ho.1
 have hk:∀c p,r.err=some (c,p)→c≠0:=fun c p e=>(ho.2 c p e).1
 have tk:∀b,(S.set j b).take S.length=S.set j b:=fun b=>List.take_of_length_le (by simp)
 have tk0:takeRet [] (.tup [])=(.tup [],[]):=rfl
 have te:∀t l,takeRet t (encBs l)=(encBs l,t):=fun t l=>by rw[encBs_sl];rfl
 have tp:∀t a b,takeRet t (.tup [.int .u64 a,.int .i64 b])=(.tup [.int .u64 a,.int .i64 b],t):=fun _ _ _=>rfl
 have hll:r.left.length=r.b.length -r.at_:=left_len r
 have hP:=F_r02_Parse r.left (by omega) S
 have wm:IntKind.wrap .u64 (most:Int)=(most:Int):=by show(most:Int)%18446744073709551616=_;omega
 have m0:¬(most:Int)<0:=by omega
 have nl:∀t,giveRes t .nils=(.nils,t):=fun _=>rfl
 rw[run_dioptreref02_Reader_Bytes,DC_of c_dioptreref02_Reader_Bytes.eq_1]
 cases he:r.err with
 |some x=>
  rw[he]at h2
  have hx:¬((x.1:Int)=0):=by have:=hk x.1 x.2 he;omega
  have hxn:¬x.1=0:=hk x.1 x.2 he
  have hy:r.bytes most=([],r):=by unfold Rd.bytes;rw[he]
  have ss:=rf_same hS
  refine⟨.nils,.inl ⟨by rw[hy];rfl,rfl⟩,rfl, ?_⟩
  simp at h2
  simp[evNilCheck,h2,hx,hxn,hy,ss,nl,resK,giveResL,retOf,plainRes,notTup,normr,giveRes,plain]
 |none=>
  rw[he]at h2
  simp at h2
  cases hp:pN 0 r.left with
  |none=>
   have e0:prsR r.left=(0,0):=by unfold prsR;rw[hp];rfl
   have hf:=F_rf_Fail hS hk 2 (by decide)
   have hy:r.bytes most=([],r.fail 2):=by unfold Rd.bytes;rw[he];simp only[hp]
   refine⟨.nils,.inl ⟨by rw[hy];rfl,rfl⟩,rfl, ?_⟩
   rw[e0]at hP
   simp at hf hP
   simp[evNilCheck,h2,hL,hP,hf,hy,te,tp,tk,tk0,m0,nl,resK,giveResL,retOf,plainRes,notTup,normr,giveRes,plain]
  |some y=>
   obtain⟨n,k⟩:=y
   have hl:=pN_len _ _ _ _ hp
   have hlt:=parse_lt hp
   have e0:prsR r.left=(n,k):=by unfold prsR;rw[hp];rfl
   rw[e0]at hP
   have k0:¬(k:Int)=0:=by omega
   have k0':¬k=0:=by omega
   by_cases hm:most<n
   ·have hm':(most:Int)<(n:Int):=by omega
    have hf:=F_rf_Fail hS hk 3 (by decide)
    have hy:r.bytes most=([],r.fail 3):=by unfold Rd.bytes;rw[he];simp only[hp];rw[if_pos hm]
    refine⟨.nils,.inl ⟨by rw[hy];rfl,rfl⟩,rfl, ?_⟩
    simp at hf hP
    simp[evNilCheck,h2,hL,hP,hf,hm,hm',wm,k0,k0',hy,te,tp,tk,tk0,m0,nl,resK,giveResL,retOf,plainRes,notTup,normr,giveRes,plain]
   ·have hm':¬(most:Int)<(n:Int):=by omega
    have ws:IntKind.wrap .i64 ((r.left.length:Int) -(k:Int))=((r.left.length -k:Nat):Int):=by rw[wrap64 (by omega)];omega
    have wu:IntKind.wrap .u64 ((r.left.length -k:Nat):Int)=((r.left.length -k:Nat):Int):=by
     have:((r.left.length -k:Nat):Int)<18446744073709551616:=by omega
     have:0≤((r.left.length -k:Nat):Int):=by omega
     show((r.left.length -k:Nat):Int)%18446744073709551616=_
     omega
    by_cases hs:r.left.length -k<n
    ·have hs':((r.left.length -k:Nat):Int)<(n:Int):=by omega
     have hf:=F_rf_Fail hS hk 2 (by decide)
     have hy:r.bytes most=([],r.fail 2):=by unfold Rd.bytes;rw[he];simp only[hp];rw[if_neg hm,if_pos hs]
     refine⟨.nils,.inl ⟨by rw[hy];rfl,rfl⟩,rfl, ?_⟩
     generalize r.left.length -k=L at*
     simp at hf hP
     simp[evNilCheck,h2,hL,hP,hf,hm,hm',hs,hs',ws,wu,wm,k0,k0',hy,te,tp,tk,tk0,m0,nl,resK,giveResL,retOf,plainRes,notTup,normr,giveRes,plain]
    ·have hs':¬((r.left.length -k:Nat):Int)<(n:Int):=by omega
     have hy:r.bytes most=((r.left.drop k).take n,r.go (k+n)):=by unfold Rd.bytes;rw[he];simp only[hp];rw[if_neg hm,if_neg hs]
     obtain⟨q,a1,a2,a3⟩:=F_rf_take hS k (by have:=hl.2.1;have:=ho.1;omega) hb
     obtain⟨out,t,b1,b2⟩:=a1.take []
     obtain⟨q',a1',a2',a3'⟩:=F_rf_take (rfb_set hS (r.go k)) n (by have:=ho.1;show r.at_+k+n≤r.b.length;omega) hb
     have eg:(r.go k).go n=r.go (k+n):=by simp[Rd.go,Nat.add_assoc]
     have el:(r.go k).left=r.left.drop k:=by simp[Rd.left,Rd.go]
     rw[el]at a1'
     obtain⟨out',t',b1',b2'⟩:=a1'.take ([]++t)
     obtain⟨v,t2,d1,d2,d3⟩:=b2'.res (plainEs_bcl _)
     rw[b2'.nr]at d1
     have nt:=b2'.nt
     have nr:=b2'.nr
     refine⟨v,by rw[hy];exact d2,d3, ?_⟩
     have wn:IntKind.wrap .i64 (n:Int)=(n:Int):=wrap64 (by omega)
     rw[eg]at a3'
     generalize r.left.length -k=L at*
     simp at hP b1 b1' a3' d1
     simp[evNilCheck,h2,hL,hP,hm,hm',hs,hs',ws,wu,wm,wn,k0,k0',a3,b1,a3',b1',d1,d3,nt,nr,hy,te,tp,tk,tk0,m0]
end
end
section
inductive Rw:List (List AV)→List Str→Prop
 |nil:Rw [] []
 |add {es:List (List AV)} {l:List Str} {v:AV} {x:Str} (h:Rw es l) (hp:plain v=true) (hx:x≠[]→v=encBs x∨v=.sl .exact 1 (bcl x)):Rw (es++[[v]]) (l++[x])
theorem Rw.len{es:List (List AV)}{l:List Str}(h:Rw es l):es.length=l.length:=by
 induction h with
 |nil=>rfl
 |add h hp hx ih=>simp[ih]
theorem plainEs_app:∀(a b:List (List AV)),plainEs (a++b)=(plainEs a&&plainEs b)
 |[],b=>by simp[plainEs]
 |x::a,b=>by simp[plainEs,plainEs_app a b,Bool.and_assoc]
theorem Rw.plain{es:List (List AV)}{l:List Str}(h:Rw es l):plainEs es=true:=by
 induction h with
 |nil=>rfl
 |add h hp hx ih=>simp[plainEs_app,ih,plainEs,plainL,hp]
theorem Rw.sm{es:List (List AV)}{l:List Str}(h:Rw es l)(hl:∀x∈l,x≠[]):Sm es l:=by
 refine⟨h.len, ?_⟩
 induction h with
 |nil=>intro i x h;simp at h
 |@add es l v y h hp hx ih=>
  intro i x hi
  have hlen:=h.len
  rcases Nat.lt_trichotomy i l.length with h1|h1|h1
  ·rw[List.getElem?_append_left h1]at hi
   rw[List.getElem?_append_left (by omega)]
   exact ih (fun x hx=>hl x (by simp[hx])) i x hi
  ·subst h1
   simp at hi
   subst hi
   exact⟨v,by rw[←hlen];simp,hx (hl _ (by simp))⟩
  ·rw[List.getElem?_eq_none (by simp;omega)]at hi
   cases hi
section
variable{S:St}{j:Nat}{r:Rd}(hS:S[j]? =some (rfB r))
include hS in
theorem F_r08_Count(ho:r.Ok)(hb:r.b.length≤1073741824):DF lib nk 31 [.ptr j 0,.int .i64 64] S=
 some (.int .i64 ((if 64<(r.number 18446744073709551615).1 then 0 else(r.number 18446744073709551615).1:Nat):Int),S.set j (rfB (if 64<(r.number 18446744073709551615).1 then(r.number 18446744073709551615).2.fail 3 else(r.number 18446744073709551615).2))):=by
 have hN:=F_rf_Number hS ho hb 18446744073709551615
 obtain⟨k1,k2⟩:=Rd.number_ok ho 18446744073709551615
 have hf:=F_rf_Fail (rfb_set hS (r.number 18446744073709551615).2) (fun c p e=>(k1.2 c p e).1) 3 (by decide)
 have hlt:=Rd.number_lt r (m:=18446744073709551615) (by decide)
 rw[show((18446744073709551615:Nat):Int)=18446744073709551615 from rfl]at hN
 have tk:∀t,takeRet t (.tup [])=(.tup [],t):=fun _=>rfl
 have tkS:∀b,(S.set j b).take S.length=S.set j b:=fun b=>List.take_of_length_le (by simp)
 generalize(r.number 18446744073709551615).1=n at*
 generalize(r.number 18446744073709551615).2=r1 at*
 rw[run_dioptreref08_Count,DC_of c_dioptreref08_Count.eq_1]
 have w64:IntKind.wrap .u64 64=64:=rfl
 by_cases h:64<n
 ·have h':(64:Int)<(n:Int):=by omega
  simp at hf
  simp[hN,h,h',w64,hf,tk,tkS,resK,giveResL,retOf,plainRes]
 ·have h':¬(64:Int)<(n:Int):=by omega
  have wn:IntKind.wrap .i64 (n:Int)=(n:Int):=wrap64 (by omega)
  simp[hN,h,h',w64,wn,tkS,resK,giveResL,retOf,plainRes]
end
theorem fe_out{o:AV}{t:List (Option Nat)}{x:Str}(h:OutG 1 o t (bcl x)):fillEs 1 [[.nils]] [(0,o)]=some [[strip o]]∧plain (strip o)=true∧(x≠[]→strip o=encBs x∨strip o=.sl .exact 1 (bcl x)):=by
 have hp:=plainEs_bcl x
 rcases h with⟨h0,rfl⟩|rfl|⟨k,rfl,_⟩
 ·exact⟨rfl,rfl,fun hx=>absurd ((bcl_nil _).1 h0) hx⟩
 ·exact⟨rfl,hp,fun _=>.inr rfl⟩
 ·exact⟨rfl,hp,fun _=>.inl (encBs_sl x).symm⟩
theorem L_r23_Read(n j nb:Nat)(hn:n≤64):∀m i(r:Rd)(outl:List Str)(es:List (List AV))(out:AV)(tips:List (Option Nat))(S:St),i+m=n→outl.length≤i→S[j]? =some (rfB r)→r.Ok→r.b.length≤1073741824→OutG 1 out tips es→Rw es outl→
 ∃q t es',OutG 1 q t es'∧Rw es' (bL m r outl).1∧DC lib nk (.loop l_dioptreref23_Read_0) ⟨[(5,.ptr j 0),(6,.int .i64 (n:Int)),(7,out),(8,.int .i64 (i:Int))],tips,nb⟩ S=some (.exit 0,⟨[(5,.ptr j 0),(7,q)],t,nb⟩,S.set j (rfB (bL m r outl).2)):=by
 intro m
 induction m with
 |zero=>
  intro i r outl es out tips S hi hol hS ho hb hO hR
  have h5:¬i<n:=by omega
  have h5':¬(i:Int)<(n:Int):=by omega
  refine⟨out,tips,es,hO,hR, ?_⟩
  rw[DC_loop',DC_of l_dioptreref23_Read_0.eq_1]
  simp[h5,h5',bL,rf_same hS]
 |succ m ih=>
  intro i r outl es out tips S hi hol hS ho hb hO hR
  have h3:i<n:=by omega
  have h3':(i:Int)<(n:Int):=by omega
  have h2:=rf_ld2 hS
  by_cases he:r.err=none
  ·obtain⟨k1,k2⟩:=Rd.bytes_ok ho 4096
   obtain⟨v,v1,v2,hy⟩:=F_rf_Bytes hS ho hb 4096 (by decide)
   rw[show((4096:Nat):Int)=4096 from rfl]at hy
   have hw:=wrap_succ (i:=i) (by omega)
   obtain⟨o1,t1,b1,b2⟩:=v1.take tips
   obtain⟨fe,f1,f2⟩:=fe_out b2
   have ln:=b2.len
   rw[bcl_len]at ln
   have hE:=hR.len
   obtain⟨o2,t2,a1,a2⟩:=(hO.more t1).app (xs:=[[strip o1]]) (by simp) (by simp;omega) .exact (S.set j (rfB (if(r.bytes 4096).1=[]then(r.bytes 4096).2.fail 2 else(r.bytes 4096).2)))
   have hset:=rfb_set hS (if(r.bytes 4096).1=[]then(r.bytes 4096).2.fail 2 else(r.bytes 4096).2)
   have K:(if(r.bytes 4096).1=[]then(r.bytes 4096).2.fail 2 else(r.bytes 4096).2).Ok∧(if(r.bytes 4096).1=[]then(r.bytes 4096).2.fail 2 else(r.bytes 4096).2).b=r.b:=by
    split
    ·exact⟨k1.fail (by decide) (by decide),by rw[Rd.fail_b,k2]⟩
    ·exact⟨k1,k2⟩
   obtain⟨q,t,es',c1,c2,c3⟩:=ih (i+1) _ _ _ o2 t2 _ (by omega) (by simp;omega) hset K.1 (by rw[K.2];exact hb) a2 (hR.add f1 f2)
   refine⟨q,t,es',c1,by simpa[bL,he]using c2, ?_⟩
   have eb:bL (m+1) r outl=bL m (if(r.bytes 4096).1=[]then(r.bytes 4096).2.fail 2 else(r.bytes 4096).2) (outl++[(r.bytes 4096).1]):=by simp[bL,he]
   have tk:∀t,takeRet t (.tup [])=(.tup [],t):=fun _=>rfl
   have hF:=F_rf_Fail (rfb_set hS (r.bytes 4096).2) (fun c p e=>(k1.2 c p e).1) 2 (by decide)
   rw[he]at h2
   rw[eb]
   rw[DC_loop',DC_of l_dioptreref23_Read_0.eq_1]
   simp at hw c3 a1 h2
   by_cases hx:(r.bytes 4096).1=[]
   ·rw[if_pos hx]at a1 c3
    simp at hF
    simp only[if_pos hx]
    generalize(r.bytes 4096).1=x at*
    generalize(r.bytes 4096).2=r2 at*
    subst hx
    simp at ln c3
    simp[h3,h3',evNilCheck,h2,hy,b1,ln,hF,tk,fe,a1]
    rw[DC_keep_of l_dioptreref23_Read_0.eq_1]
    simp[hw,c3]
   ·rw[if_neg hx]at a1 c3
    simp only[if_neg hx]
    generalize(r.bytes 4096).1=x at*
    generalize(r.bytes 4096).2=r2 at*
    have hx':¬(x.length:Int)=0:=fun h=>hx (List.eq_nil_of_length_eq_zero (by omega))
    simp[h3,h3',evNilCheck,h2,hy,b1,ln,hx,hx',tk,fe,a1]
    rw[DC_keep_of l_dioptreref23_Read_0.eq_1]
    simp[hw,c3]
  ·refine⟨out,tips,es,hO,by simp[bL,he];exact hR, ?_⟩
   cases hx:r.err with
   |none=>exact absurd hx he
   |some x=>
    rw[hx]at h2
    have hxn:¬x.1=0:=(ho.2 x.1 x.2 hx).1
    simp at h2
    rw[DC_loop',DC_of l_dioptreref23_Read_0.eq_1]
    simp[h3,h3',evNilCheck,h2,hxn,bL,hx,rf_same hS]
end
theorem bL_err{r:Rd}(h:r.err≠none)(m:Nat)(out:List Str):bL m r out=(out,r):=by
 cases m with
 |zero=>rfl
 |succ m=>simp[bL,h]
theorem bQ_cut(b:Str):bL (if 64<bN b then 0 else bN b) (bR b) []=bQ b:=by
 unfold bQ
 split
 ·rename_i h
  have he:(bR b).err≠none:=fun e=>by have:=(bR_ok b).2.2 e;omega
  rw[bL_err he,bL_err he]
 ·rfl
theorem endE_c{r:Rd}(h:r.Ok){x:Nat × Nat}(e:r.endE=some x):x.1≠0:=by
 unfold Rd.endE at e
 split at e
 ·exact((h.fail (c:=2) (by decide) (by decide)).2 x.1 x.2 e).1
 ·exact(h.2 x.1 x.2 e).1
theorem resK_sI{f:FuncId}{q:AV}{t:List (Option Nat)}{l:List (List AV)}(hq:OutG 1 q t l)(hp:plainEs l=true)(a b:Int)(S S':St):
 ∃v,ResG 1 v l∧resK f t [q,.int .i64 a,.int .i64 b] S S'=some (.tup [v,.int .i64 a,.int .i64 b],S'.take S.length):=by
 obtain⟨v,t',d1,d2,d3⟩:=OutG.res hq hp
 refine⟨v,d2, ?_⟩
 rw[OutG.nr hq]at d1
 have e:retOf (giveResL t ([q,.int .i64 a,.int .i64 b].map normr))=.tup [v,.int .i64 a,.int .i64 b]:=by
  simp only[List.map_cons,List.map_nil,OutG.nr hq,giveResL,d1]
  rfl
 have hr:plainRes (.tup [v,.int .i64 a,.int .i64 b])=true:=by
  rcases d2 with⟨_,rfl⟩|rfl|rfl<;>simp[plainRes,plain,hp]
 unfold resK
 rw[e,if_pos hr,if_pos (by simp only[List.all_cons,OutG.nt hq];rfl)]
theorem F_r23_Read(b:Str)(hb:b.length≤1073741824)(S:St):∃v,DF lib nk 13 [encBs b] S=some (v,S)∧
 match(bQ b).2.endE with
  |some x=>v=.tup [.nils,.int .i64 (x.1:Int),.int .i64 (x.2:Int)]
  |none=>∃w es,ResG 1 w es∧Rw es (bQ b).1∧v=.tup [w,.int .i64 0,.int .i64 (-1)]:=by
 have ok0:(⟨b,0,none⟩:Rd).Ok:=⟨Nat.zero_le _,fun c p h=>by cases h⟩
 have hN:∀r,(S++[rfB r])[S.length]? =some (rfB r):=fun r=>by simp
 have hset:∀r r',(S++[rfB r]).set S.length (rfB r')=S++[rfB r']:=fun r r'=>by simp
 have h1:=F_r08_Count (hN ⟨b,0,none⟩) ok0 hb
 obtain⟨R1,R2,R3⟩:=bR_ok b
 have e1:((⟨b,0,none⟩:Rd).number 18446744073709551615).1=bN b:=rfl
 have e2:(if 64<bN b then((⟨b,0,none⟩:Rd).number 18446744073709551615).2.fail 3 else((⟨b,0,none⟩:Rd).number 18446744073709551615).2)=bR b:=rfl
 rw[e1,e2,hset]at h1
 have hc:(if 64<bN b then 0 else bN b)≤64:=by split<;>omega
 obtain⟨q,t,es,a1,a2,a3⟩:=L_r23_Read _ S.length S.length hc _ 0 (bR b) [] [] .nils [] (S++[rfB (bR b)]) (Nat.zero_add _) (by simp) (hN _) R1 (by rw[R2];exact hb) (.inl ⟨rfl,rfl⟩) .nil
 rw[bQ_cut]at a2 a3
 rw[hset]at a3
 have QO:=bL_ok (bN b) (bR b) [] R1
 have QO1:(bQ b).2.Ok:=QO.1
 have h3:=F_rf_End (hN (bQ b).2) QO1
 have tp:∀t a b,takeRet t (.tup [.int .i64 a,.int .i64 b])=(.tup [.int .i64 a,.int .i64 b],t):=fun _ _ _=>rfl
 have tkP:∀t i o,takeRet t (.ptr i o)=(.ptr i o,t):=fun _ _ _=>rfl
 have w0:S++[Box.mem [encBs b,.int .i64 0,.int .i64 0,.int .i64 0] [] false]=S++[rfB ⟨b,0,none⟩]:=rfl
 have fk:fillK [.nils,.int .i64 0,.int .i64 0,.int .i64 0] [(0,1,encBs b)]=some [encBs b,.int .i64 0,.int .i64 0,.int .i64 0]:=by
  rw[encBs_sl];rfl
 generalize hcc:(if 64<bN b then 0 else bN b)=c at*
 rw[run_dioptreref23_Read,DC_of c_dioptreref23_Read.eq_1]
 generalize hQ:bQ b=Q at*
 cases he:Q.2.endE with
 |some x=>
  rw[he]at h3
  have xc:=endE_c QO1 he
  have xc':¬(x.1:Int)=0:=by omega
  refine⟨.tup [.nils,.int .i64 (x.1:Int),.int .i64 (x.2:Int)], ?_,rfl⟩
  have hr:=resK_nn (f:=13) (q:=.nils) (v:=.nils) (t:=t) (t':=t) (s:=[]) rfl rfl rfl nilRes x.1 x.2 S (S++[rfB Q.2])
  simp at h1 a3 h3 hr
  simp[fk,w0,h1]
  rw[DC_keep_of l_dioptreref23_Read_0.eq_1]
  simp[a3,h3,tp,xc,xc',hr]
 |none=>
  rw[he]at h3
  obtain⟨w,w1,w2⟩:=resK_sI (f:=13) a1 a2.plain 0 (-1) S (S++[rfB Q.2])
  refine⟨.tup [w,.int .i64 0,.int .i64 (-1)], ?_, ?_⟩
  rotate_left
  ·exact⟨w,es,w1,a2,rfl⟩
  simp at h1 a3 h3 w2
  simp[fk,w0,h1]
  rw[DC_keep_of l_dioptreref23_Read_0.eq_1]
  simp[a3,h3,tp,w2]
theorem bL_inv:∀(m:Nat)(r:Rd)(out l:List Str)(r':Rd),bL m r out=(l,r')→r'.err=none→
 ∃t,l=out++t∧t.length=m∧r.err=none∧(∀x∈t,x≠[]∧x.length≤4096)∧r.left=t.flatMap bytesB++r'.left
 |0,r,out,l,r',h,he=>by
  cases h
  exact⟨[],by simp,rfl,he,by simp,by simp⟩
 |m+1,r,out,l,r',h,he=>by
  unfold bL at h
  split at h
  ·rename_i e
   cases h
   exact absurd he e
  ·obtain⟨t,h1,h2,h3,h4,h5⟩:=bL_inv m _ _ l r' h he
   by_cases hx:(r.bytes 4096).1=[]
   ·rw[if_pos hx]at h3
    exact absurd h3 (Rd.fail_err _ _)
   ·rw[if_neg hx]at h3 h5
    obtain⟨a,b,_,d,_⟩:=Rd.bytes_inv (r:=r) (most:=4096) (s:=(r.bytes 4096).1) (r':=(r.bytes 4096).2) rfl h3
    refine⟨(r.bytes 4096).1::t,by rw[h1];simp,by simp[h2],a,fun x hx'=>?_, ?_⟩
    ·rcases List.mem_cons.1 hx' with rfl|hx'
     ·exact⟨hx,b⟩
     ·exact h4 x hx'
    ·rw[d,h5]
     simp
theorem wS_in:∀(l:List Str)(i:Nat)(out:Str),(∀x∈l,x≠[]∧x.length≤4096)→wS i l out=.inr (out++l.flatMap bytesB)
 |[],i,out,h=>by simp[wS]
 |b::l,i,out,h=>by
  obtain⟨h1,h2⟩:=h b (by simp)
  rw[wS,if_neg h1,if_neg (by omega),wS_in l _ _ fun x hx=>h x (by simp[hx])]
  simp
theorem bQ_inv(b:Str)(h:(bQ b).2.endE=none):(bQ b).1.length≤64∧wS 0 (bQ b).1 (numB (bQ b).1.length)=.inr b∧∀x∈(bQ b).1,x≠[]:=by
 obtain⟨R1,R2,R3⟩:=bR_ok b
 have QO:=bL_ok (bN b) (bR b) [] R1
 have QB:(bQ b).2.b=b:=QO.2.trans R2
 have he:(bQ b).2.err=none∧(bQ b).2.left=[]:=by
  unfold Rd.endE at h
  split at h
  ·exact absurd h (Rd.fail_err _ _)
  ·rename_i hl
   exact⟨h,List.drop_eq_nil_of_le (by omega)⟩
 obtain⟨t,h1,h2,h3,h4,h5⟩:=bL_inv (bN b) (bR b) [] (bQ b).1 (bQ b).2 rfl he.1
 rw[he.2,List.append_nil]at h5
 rw[List.nil_append]at h1
 have hn:=R3 h3
 have e2:bR b=((⟨b,0,none⟩:Rd).number 18446744073709551615).2:=if_neg (by omega)
 rw[e2]at h3 h5
 obtain⟨_,_,_,d,_⟩:=Rd.number_inv (r:=⟨b,0,none⟩) (most:=18446744073709551615) (n:=bN b) (r':=((⟨b,0,none⟩:Rd).number 18446744073709551615).2) rfl h3
 have d:b=numB (bN b)++((⟨b,0,none⟩:Rd).number 18446744073709551615).2.left:=d
 rw[h1,h2]
 refine⟨hn, ?_,fun x hx=>(h4 x hx).1⟩
 rw[wS_in t 0 _ h4,←h5,←d]
def w32(x:UInt32):AV:=.int .u32 (x.toNat:Int)
def w64(x:UInt64):AV:=.int .u64 (x.toNat:Int)
@[simp]theorem datC_w32(x:UInt32):DatC (w32 x):=datC_int .u32 _
@[simp]theorem datC_w64(x:UInt64):DatC (w64 x):=datC_int .u64 _
@[simp]theorem w32_nt(x:UInt32):notTup (w32 x)=true:=rfl
@[simp]theorem w32_nr(x:UInt32):normr (w32 x)=w32 x:=rfl
@[simp]theorem w32_gr(t:List (Option Nat))(x:UInt32):giveRes t (w32 x)=(w32 x,t):=rfl
@[simp]theorem w32_pr(x:UInt32):plainRes (w32 x)=true:=rfl
@[simp]theorem w32_ga(S:St)(x:UInt32):giveArg S (w32 x)=some (w32 x):=rfl
@[simp]theorem w32_lo(S:St)(x:UInt32):lockOne S (w32 x)=S:=rfl
@[simp]theorem w32_ul(S S':St)(x:UInt32):unlockOne S S' (w32 x)=S':=rfl
@[simp]theorem w32_no(x:UInt32):norm (w32 x)=w32 x:=rfl
@[simp]theorem w32_tk(t:List (Option Nat))(x:UInt32):takeRet t (w32 x)=(w32 x,t):=rfl
@[simp]theorem w64_nt(x:UInt64):notTup (w64 x)=true:=rfl
@[simp]theorem w64_nr(x:UInt64):normr (w64 x)=w64 x:=rfl
@[simp]theorem w64_gr(t:List (Option Nat))(x:UInt64):giveRes t (w64 x)=(w64 x,t):=rfl
@[simp]theorem w64_pr(x:UInt64):plainRes (w64 x)=true:=rfl
@[simp]theorem w64_ga(S:St)(x:UInt64):giveArg S (w64 x)=some (w64 x):=rfl
@[simp]theorem w64_lo(S:St)(x:UInt64):lockOne S (w64 x)=S:=rfl
@[simp]theorem w64_ul(S S':St)(x:UInt64):unlockOne S S' (w64 x)=S':=rfl
@[simp]theorem w64_no(x:UInt64):norm (w64 x)=w64 x:=rfl
@[simp]theorem w64_tk(t:List (Option Nat))(x:UInt64):takeRet t (w64 x)=(w64 x,t):=rfl
theorem bvo(n m:Nat):(BitVec.ofInt n (m:Int)).toNat=m %2^n:=by
 rw[BitVec.ofInt_natCast,BitVec.toNat_ofNat]
theorem wr32(n:Nat):IntKind.wrap .u32 (n:Int)=((n %4294967296:Nat):Int):=by
 show(n:Int)%4294967296=_;omega
theorem wr64(n:Nat):IntKind.wrap .u64 (n:Int)=((n %18446744073709551616:Nat):Int):=by
 show(n:Int)%18446744073709551616=_;omega
theorem x32_lt(x:UInt32):x.toNat<4294967296:=x.toNat_lt
theorem x64_lt(x:UInt64):x.toNat<18446744073709551616:=x.toNat_lt
@[simp high]theorem w32_add(x y:UInt32):binIK .add (w32 x) (w32 y)=some (w32 (x+y)):=by
  show some (AV.int .u32 (IntKind.wrap .u32 ((x.toNat:Int)+(y.toNat:Int))))=some (.int .u32 (((x+y).toNat:Nat):Int))
  rw[←Int.natCast_add,wr32,UInt32.toNat_add]
@[simp high]theorem w64_add(x y:UInt64):binIK .add (w64 x) (w64 y)=some (w64 (x+y)):=by
  show some (AV.int .u64 (IntKind.wrap .u64 ((x.toNat:Int)+(y.toNat:Int))))=some (.int .u64 (((x+y).toNat:Nat):Int))
  rw[←Int.natCast_add,wr64,UInt64.toNat_add]
@[simp high]theorem w32_and(x y:UInt32):binIK .and (w32 x) (w32 y)=some (w32 (x&&&y)):=by
  show some (AV.int .u32 (IntKind.wrap .u32 ((BitVec.ofInt 32 (x.toNat:Int)&&&BitVec.ofInt 32 (y.toNat:Int)).toNat:Int)))=some (.int .u32 (((x&&&y).toNat:Nat):Int))
  have:=x32_lt (x&&&y)
  rw[UInt32.toNat_and]at this
  rw[BitVec.toNat_and,bvo,bvo,Nat.mod_eq_of_lt (x32_lt x),Nat.mod_eq_of_lt (x32_lt y),wr32,UInt32.toNat_and,Nat.mod_eq_of_lt this]
@[simp high]theorem w64_and(x y:UInt64):binIK .and (w64 x) (w64 y)=some (w64 (x&&&y)):=by
  show some (AV.int .u64 (IntKind.wrap .u64 ((BitVec.ofInt 64 (x.toNat:Int)&&&BitVec.ofInt 64 (y.toNat:Int)).toNat:Int)))=some (.int .u64 (((x&&&y).toNat:Nat):Int))
  have:=x64_lt (x&&&y)
  rw[UInt64.toNat_and]at this
  rw[BitVec.toNat_and,bvo,bvo,Nat.mod_eq_of_lt (x64_lt x),Nat.mod_eq_of_lt (x64_lt y),wr64,UInt64.toNat_and,Nat.mod_eq_of_lt this]
@[simp high]theorem w32_or(x y:UInt32):binIK .or (w32 x) (w32 y)=some (w32 (x|||y)):=by
  show some (AV.int .u32 (IntKind.wrap .u32 ((BitVec.ofInt 32 (x.toNat:Int)|||BitVec.ofInt 32 (y.toNat:Int)).toNat:Int)))=some (.int .u32 (((x|||y).toNat:Nat):Int))
  have:=x32_lt (x|||y)
  rw[UInt32.toNat_or]at this
  rw[BitVec.toNat_or,bvo,bvo,Nat.mod_eq_of_lt (x32_lt x),Nat.mod_eq_of_lt (x32_lt y),wr32,UInt32.toNat_or,Nat.mod_eq_of_lt this]
@[simp high]theorem w64_or(x y:UInt64):binIK .or (w64 x) (w64 y)=some (w64 (x|||y)):=by
  show some (AV.int .u64 (IntKind.wrap .u64 ((BitVec.ofInt 64 (x.toNat:Int)|||BitVec.ofInt 64 (y.toNat:Int)).toNat:Int)))=some (.int .u64 (((x|||y).toNat:Nat):Int))
  have:=x64_lt (x|||y)
  rw[UInt64.toNat_or]at this
  rw[BitVec.toNat_or,bvo,bvo,Nat.mod_eq_of_lt (x64_lt x),Nat.mod_eq_of_lt (x64_lt y),wr64,UInt64.toNat_or,Nat.mod_eq_of_lt this]
@[simp high]theorem w32_xor(x y:UInt32):binIK .xor (w32 x) (w32 y)=some (w32 (x^^^y)):=by
  show some (AV.int .u32 (IntKind.wrap .u32 ((BitVec.ofInt 32 (x.toNat:Int)^^^BitVec.ofInt 32 (y.toNat:Int)).toNat:Int)))=some (.int .u32 (((x^^^y).toNat:Nat):Int))
  have:=x32_lt (x^^^y)
  rw[UInt32.toNat_xor]at this
  rw[BitVec.toNat_xor,bvo,bvo,Nat.mod_eq_of_lt (x32_lt x),Nat.mod_eq_of_lt (x32_lt y),wr32,UInt32.toNat_xor,Nat.mod_eq_of_lt this]
@[simp high]theorem w32_not(x:UInt32):evUn .xor (w32 x)=some (w32 (~~~x)):=by
  show some (AV.int .u32 (IntKind.wrap .u32 ((BitVec.ofInt 32 (4294967295:Int)^^^BitVec.ofInt 32 (x.toNat:Int)).toNat:Int)))=some (.int .u32 (((~~~x).toNat:Nat):Int))
  have e:(BitVec.ofInt 32 (4294967295:Int))=BitVec.allOnes 32:=by decide
  have h:(BitVec.allOnes 32^^^BitVec.ofInt 32 (x.toNat:Int))= ~~~(BitVec.ofInt 32 (x.toNat:Int)):=BitVec.allOnes_xor
  have hx:=x32_lt x
  rw[e,h,BitVec.toNat_not,bvo,Nat.mod_eq_of_lt (x32_lt x),wr32,UInt32.toNat_not]
  have:UInt32.size=4294967296:=rfl
  rw[this,Nat.mod_eq_of_lt (by omega)]
theorem shr_lt(x n:Nat)(h:x<4294967296):x>>>n<4294967296:=Nat.lt_of_le_of_lt (Nat.shiftRight_le _ _) h
theorem fdiv_shr(x n:Nat):(x:Int).fdiv (2^n)=((x>>>n:Nat):Int):=by
 rw[Nat.shiftRight_eq_div_pow]
 have:(2:Int)^n=((2^n:Nat):Int):=by simp
 rw[this]
 exact(Int.ofNat_fdiv x (2^n)).symm
theorem w32_shr(x:UInt32)(n:Nat)(h:n≤32)(k:IntKind):binIK .shr (w32 x) (.int k (n:Int))=some (w32 (shr32 x n)):=by
 show(if(n:Int)<0 then none else some (AV.int .u32 ((x.toNat:Int).fdiv (2^(min (n:Int).toNat 32)))))=some (.int .u32 (((shr32 x n).toNat:Nat):Int))
 rw[if_neg (by omega),Int.toNat_natCast,Nat.min_eq_left h,fdiv_shr]
 unfold shr32
 rw[UInt32.toNat_ofNat',Nat.mod_eq_of_lt (shr_lt _ _ (x32_lt x))]
@[simp high]theorem w32_shr3(x:UInt32):binIK .shr (w32 x) (.int .u64 3)=some (w32 (shr32 x 3)):=w32_shr x 3 (by omega) .u64
@[simp high]theorem w32_shr10(x:UInt32):binIK .shr (w32 x) (.int .u64 10)=some (w32 (shr32 x 10)):=w32_shr x 10 (by omega) .u64
theorem w32_shl(x:UInt32)(n:Nat)(h:n≤32)(k:IntKind):binIK .shl (w32 x) (.int k (n:Int))=some (w32 (UInt32.ofNat (x.toNat<<<n))):=by
 show(if(n:Int)<0 then none else some (AV.int .u32 (IntKind.wrap .u32 ((x.toNat:Int)*2^(min (n:Int).toNat 32)))))=some (.int .u32 (((UInt32.ofNat (x.toNat<<<n)).toNat:Nat):Int))
 have e:((x.toNat:Int)*2^n)=((x.toNat<<<n:Nat):Int):=by rw[Nat.shiftLeft_eq];simp
 rw[if_neg (by omega),Int.toNat_natCast,Nat.min_eq_left h,e,wr32,UInt32.toNat_ofNat']
theorem rotr_eq(x:UInt32)(n:Nat):UInt32.ofNat (x.toNat<<<(32 -n))|||shr32 x n=rotr x n:=by
 apply UInt32.toNat_inj.1
 unfold rotr shr32
 rw[UInt32.toNat_or,UInt32.toNat_ofNat',UInt32.toNat_ofNat',UInt32.toNat_ofNat',Nat.or_mod_two_pow,Nat.or_comm]
theorem F_bits_RotateLeft32(x:UInt32)(n:Nat)(h1:1≤n)(h2:n<32)(S:St):DF lib nk 151 [w32 x,.int .i64 (-(n:Int))] S=some (w32 (rotr x n),S):=by
 have wn:IntKind.wrap .u64 (-(n:Int))=((18446744073709551616 -n:Nat):Int):=by
  show(-(n:Int))%18446744073709551616=_;omega
 have an:IntKind.wrap .u64 ((BitVec.ofInt 64 ((18446744073709551616 -n:Nat):Int)&&&BitVec.ofInt 64 (31:Int)).toNat:Int)=((32 -n:Nat):Int):=by
  have e31:BitVec.ofInt 64 (31:Int)=BitVec.ofInt 64 ((31:Nat):Int):=rfl
  rw[e31,BitVec.toNat_and,bvo,bvo,Nat.mod_eq_of_lt (by omega),Nat.mod_eq_of_lt (by omega:31<2^64),show(31:Nat)=2^5 -1 from rfl,Nat.and_two_pow_sub_one_eq_mod,wr64]
  omega
 have sn:IntKind.wrap .u64 (32 -((32 -n:Nat):Int))=(n:Int):=by
  show(32 -((32 -n:Nat):Int))%18446744073709551616=_;omega
 have b1:binIK .and (.int .u64 ((18446744073709551616 -n:Nat):Int)) (.int .u64 31)=some (.int .u64 ((32 -n:Nat):Int)):=congrArg (fun z=>some (AV.int .u64 z)) an
 have b2:binIK .sub (.int .u64 32) (.int .u64 ((32 -n:Nat):Int))=some (.int .u64 (n:Int)):=congrArg (fun z=>some (AV.int .u64 z)) sn
 have b3:=w32_shl x (32 -n) (by omega) .u64
 have b4:=w32_shr x n (by omega) .u64
 have cv:cvIK .u64 (.int .i64 (-(n:Int)))=some (.int .u64 ((18446744073709551616 -n:Nat):Int)):=congrArg (fun z=>some (AV.int .u64 z)) wn
 rw[run_math_bits_RotateLeft32,DC_of c_math_bits_RotateLeft32.eq_1]
 generalize((18446744073709551616 -n:Nat):Int)=A at*
 generalize hB:((32 -n:Nat):Int)=B at*
 simp[-binIK, -cvIK,cv,b1,b2,b3,b4,rotr_eq]
theorem F_digest_turn(x:UInt32)(n:Nat)(h1:1≤n)(h2:n<32)(S:St):DF lib nk 145 [w32 x,.int .i64 (n:Int)] S=some (w32 (rotr x n),S):=by
 have c1:=F_bits_RotateLeft32 x n h1 h2 S
 have ng:evUn .neg (.int .i64 (n:Int))=some (.int .i64 (-(n:Int))):=by
  show some (AV.int .i64 (IntKind.wrap .i64 (0 -(n:Int))))=_
  rw[wrap64 (by omega),Int.zero_sub]
 rw[run_digest_turn,DC_of c_digest_turn.eq_1]
 simp[ng,c1]
theorem or_byte(n:Nat)(c:UInt8):(n<<<8)|||c.toNat=n*256+c.toNat:=by
 have hc:c.toNat<2^8:=c.toNat_lt
 rw[←Nat.shiftLeft_add_eq_or_of_lt hc,Nat.shiftLeft_eq]
theorem num_shl(n:Nat)(h:n<16777216):binIK .shl (.int .u64 (n:Int)) (.int .u64 8)=some (.int .u64 ((n*256:Nat):Int)):=by
 have hl:n*256<18446744073709551616:=by omega
 show(if(8:Int)<0 then none else some (AV.int .u64 (IntKind.wrap .u64 ((n:Int)*2^(min (8:Int).toNat 64)))))=_
 have e:min (8:Int).toNat 64=8:=by decide
 have:(n:Int)*2^8=((n*256:Nat):Int):=by rw[Int.natCast_mul];rfl
 rw[if_neg (by decide),e,this,wr64,Nat.mod_eq_of_lt hl]
theorem num_or(n:Nat)(y:UInt8)(h:n<16777216):binIK .or (.int .u64 ((n*256:Nat):Int)) (.int .u64 (y.toNat:Int))=some (.int .u64 ((n*256+y.toNat:Nat):Int)):=by
 have yl:y.toNat<256:=y.toNat_lt
 have h3:n*256+y.toNat<18446744073709551616:=by omega
 have h1':n*256<18446744073709551616:=Nat.lt_of_le_of_lt (Nat.le_add_right _ _) h3
 have h2':y.toNat<18446744073709551616:=Nat.lt_of_le_of_lt (Nat.le_add_left _ _) h3
 have h1:n*256<2^64:=h1'
 have h2:y.toNat<2^64:=h2'
 have h4:n*256|||y.toNat=n*256+y.toNat:=by
  have:=or_byte n y
  rwa [Nat.shiftLeft_eq]at this
 show some (AV.int .u64 (IntKind.wrap .u64 ((BitVec.ofInt 64 ((n*256:Nat):Int)|||BitVec.ofInt 64 (y.toNat:Int)).toNat:Int)))=_
 rw[BitVec.toNat_or,bvo,bvo,Nat.mod_eq_of_lt h1,Nat.mod_eq_of_lt h2,wr64,h4,Nat.mod_eq_of_lt h3]
theorem num_cv(y:UInt8):cvIK .u64 (.int .u8 (y.toNat:Int))=some (.int .u64 (y.toNat:Int)):=by
 have yl:y.toNat<256:=y.toNat_lt
 show some (AV.int .u64 (IntKind.wrap .u64 (y.toNat:Int)))=_
 rw[wr64,Nat.mod_eq_of_lt (by omega)]
theorem L_digest_number(r:Right)(b:Str)(hb:b.length≤4)(nb:Nat)(S:St):∀d i n,i+d=b.length→n<256^i→
 DC lib nk (.loop l_digest_number_0) ⟨[(3,.int .u64 (n:Nat)),(6,.sl r 1 (bcs b)),(7,.int .i64 (b.length:Int)),(8,.int .i64 (i:Nat))],[],nb⟩ S=
  some (.exit 0,⟨[(3,.int .u64 ((beN n (b.drop i):Nat):Int))],[],nb⟩,S):=by
 intro d
 induction d with
 |zero=>
  intro i n hi hn
  have h3:b.drop i=[]:=List.drop_eq_nil_of_le (by omega)
  have h5:¬i<b.length:=by omega
  rw[DC_loop',DC_of l_digest_number_0.eq_1,h3]
  simp[h5,beN]
 |succ d ih=>
  intro i n hi hn
  have h3:i<b.length:=by omega
  obtain⟨y,hy,hy'⟩:=get_of_lt' (l:=b) (i:=i) (by omega)
  have hw:=wrap_succ (i:=i) (by omega)
  have yl:y.toNat<256:=y.toNat_lt
  have i4:i<4:=by omega
  have p4:(256:Nat)^i≤256^3:=Nat.pow_le_pow_right (by omega) (by omega)
  have nb:n<16777216:=Nat.lt_of_lt_of_le hn p4
  have hn1:n*256+y.toNat<256^(i+1):=by rw[Nat.pow_succ];clear ih hi nb p4;omega
  have b1:=num_shl n nb
  have b2:=num_or n y nb
  have cv:=num_cv y
  have n1:=ih (i+1) (n*256+y.toNat) (by omega) hn1
  rw[DC_loop',DC_of l_digest_number_0.eq_1,drop_get hy,beN]
  obtain⟨A,hA⟩:∃A:Int,A=((n*256+y.toNat:Nat):Int):=⟨_,rfl⟩
  obtain⟨B,hB⟩:∃B:Int,B=((n*256:Nat):Int):=⟨_,rfl⟩
  rw[←hA]at n1 b2
  rw[←hB]at b1 b2
  clear hA hB hn1 hn p4 nb
  simp at n1 hw
  have aI:∀a b,binIK .add (.int .i64 a) (.int .i64 b)=some (.int .i64 (IntKind.wrap .i64 (a+b))):=fun _ _=>rfl
  have lI:∀a b,binIK .lss (.int .i64 a) (.int .i64 b)=some (.bool (decide (a<b))):=fun _ _=>rfl
  simp[h3,hy,hy',cellB, -binIK, -cvIK,b1,b2,cv,aI,lI,hw]
  rw[DC_keep_of l_digest_number_0.eq_1]
  simp[hw,n1, -binIK,aI]
theorem F_digest_number(r:Right)(b:Str)(hb:b.length≤4)(S:St):DF lib nk 127 [.sl r 1 (bcs b)] S=some (.int .u64 ((beN 0 b:Nat):Int),S):=by
 have h:=L_digest_number r b hb S.length S b.length 0 0 (by omega) (by simp)
 rw[run_digest_number,DC_of c_digest_number.eq_1]
 simp at h
 simp
 rw[DC_keep_of l_digest_number_0.eq_1]
 simp[h]
def shr64(x:UInt64)(n:Nat):UInt64:=UInt64.ofNat (x.toNat>>>n)
def shl64(x:UInt64)(n:Nat):UInt64:=UInt64.ofNat (x.toNat<<<n)
@[simp high]theorem w64_mul(x y:UInt64):binIK .mul (w64 x) (w64 y)=some (w64 (x*y)):=by
  show some (AV.int .u64 (IntKind.wrap .u64 ((x.toNat:Int)*(y.toNat:Int))))=some (.int .u64 (((x*y).toNat:Nat):Int))
  rw[←Int.natCast_mul,wr64,UInt64.toNat_mul]
@[simp high]theorem w64_sub(x y:UInt64):binIK .sub (w64 x) (w64 y)=some (w64 (x -y)):=by
  show some (AV.int .u64 (IntKind.wrap .u64 ((x.toNat:Int) -(y.toNat:Int))))=some (.int .u64 (((x -y).toNat:Nat):Int))
  have hx:=x64_lt x
  have hy:=x64_lt y
  have e:IntKind.wrap .u64 ((x.toNat:Int) -(y.toNat:Int))=(((x -y).toNat:Nat):Int):=by
   rw[UInt64.toNat_sub]
   show((x.toNat:Int) -(y.toNat:Int))%18446744073709551616=_
   omega
  rw[e]
theorem w64_shr(x:UInt64)(n:Nat)(h:n≤64)(k:IntKind):binIK .shr (w64 x) (.int k (n:Int))=some (w64 (shr64 x n)):=by
 show(if(n:Int)<0 then none else some (AV.int .u64 ((x.toNat:Int).fdiv (2^(min (n:Int).toNat 64)))))=some (.int .u64 (((shr64 x n).toNat:Nat):Int))
 have hl:x.toNat>>>n<2^64:=Nat.lt_of_le_of_lt (Nat.shiftRight_le _ _) (x64_lt x)
 rw[if_neg (by omega),Int.toNat_natCast,Nat.min_eq_left h,fdiv_shr]
 unfold shr64
 rw[UInt64.toNat_ofNat',Nat.mod_eq_of_lt hl]
theorem w64_shl(x:UInt64)(n:Nat)(h:n≤64)(k:IntKind):binIK .shl (w64 x) (.int k (n:Int))=some (w64 (shl64 x n)):=by
 show(if(n:Int)<0 then none else some (AV.int .u64 (IntKind.wrap .u64 ((x.toNat:Int)*2^(min (n:Int).toNat 64)))))=some (.int .u64 (((shl64 x n).toNat:Nat):Int))
 have e:((x.toNat:Int)*2^n)=((x.toNat<<<n:Nat):Int):=by rw[Nat.shiftLeft_eq];simp
 unfold shl64
 rw[if_neg (by omega),Int.toNat_natCast,Nat.min_eq_left h,e,wr64,UInt64.toNat_ofNat']
theorem shr64_nat(x:UInt64)(n:Nat):(shr64 x n).toNat=x.toNat/2^n:=by
 unfold shr64
 rw[UInt64.toNat_ofNat',Nat.mod_eq_of_lt (Nat.lt_of_le_of_lt (Nat.shiftRight_le _ _) (x64_lt x)),Nat.shiftRight_eq_div_pow]
def mulH(x y:UInt64):UInt64:=UInt64.ofNat (x.toNat*y.toNat/18446744073709551616)
theorem mulH_nat(x y:UInt64):(mulH x y).toNat=x.toNat*y.toNat/18446744073709551616:=by
 unfold mulH
 have hx:=x64_lt x
 have hy:=x64_lt y
 have h:x.toNat*y.toNat≤18446744073709551615*18446744073709551615:=Nat.mul_le_mul (by omega) (by omega)
 rw[UInt64.toNat_ofNat',Nat.mod_eq_of_lt]
 omega
theorem mulH_eq(x y:UInt64):shr64 x 32*shr64 y 32+shr64 (shr64 x 32*(y&&&4294967295)+shr64 ((x&&&4294967295)*(y&&&4294967295)) 32) 32+
 shr64 ((shr64 x 32*(y&&&4294967295)+shr64 ((x&&&4294967295)*(y&&&4294967295)) 32&&&4294967295)+(x&&&4294967295)*shr64 y 32) 32=mulH x y:=by
 have hx:=x64_lt x
 have hy:=x64_lt y
 obtain⟨bd,bt,bw,hhi⟩:=Lib.mul64_hi x.toNat y.toNat hx hy
 have ba:=Lib.half_mul_le (a:=x.toNat/4294967296) (b:=y.toNat/4294967296) (by omega) (by omega)
 have bb:=Lib.half_mul_le (a:=x.toNat/4294967296) (b:=y.toNat %4294967296) (by omega) (by omega)
 have bc:=Lib.half_mul_le (a:=x.toNat %4294967296) (b:=y.toNat/4294967296) (by omega) (by omega)
 have mask:∀z:UInt64,(z&&&4294967295).toNat=z.toNat %4294967296:=fun z=>by
  rw[UInt64.toNat_and]
  exact Nat.and_two_pow_sub_one_eq_mod z.toNat 32
 have p32:(2:Nat)^32=4294967296:=rfl
 have p64:(2:Nat)^64=18446744073709551616:=rfl
 have s32:∀z:UInt64,(shr64 z 32).toNat=z.toNat/4294967296:=fun z=>shr64_nat z 32
 have m1:((x&&&4294967295)*(y&&&4294967295)).toNat=x.toNat %4294967296*(y.toNat %4294967296):=by
  rw[UInt64.toNat_mul,mask,mask,p64,Nat.mod_eq_of_lt bd]
 have m2:(shr64 x 32*(y&&&4294967295)).toNat=x.toNat/4294967296*(y.toNat %4294967296):=by
  rw[UInt64.toNat_mul,s32,mask,p64,Nat.mod_eq_of_lt (by omega)]
 have m3:((x&&&4294967295)*shr64 y 32).toNat=x.toNat %4294967296*(y.toNat/4294967296):=by
  rw[UInt64.toNat_mul,s32,mask,p64,Nat.mod_eq_of_lt (by omega)]
 have m4:(shr64 x 32*shr64 y 32).toNat=x.toNat/4294967296*(y.toNat/4294967296):=by
  rw[UInt64.toNat_mul,s32,s32,p64,Nat.mod_eq_of_lt (by omega)]
 apply UInt64.toNat_inj.1
 rw[mulH_nat,←hhi]
 simp only[UInt64.toNat_add,s32,mask,m1,m2,m3,m4]
 generalize x.toNat/4294967296*(y.toNat/4294967296)=a at*
 generalize x.toNat/4294967296*(y.toNat %4294967296)=b at*
 generalize x.toNat %4294967296*(y.toNat/4294967296)=c at*
 generalize x.toNat %4294967296*(y.toNat %4294967296)=d at*
 clear m1 m2 m3 m4 mask s32 hhi hx hy p32 p64
 omega
@[simp high]theorem agg_cs(l:List AV):(AV.agg l).cells=l:=rfl
@[simp high]theorem agg_iv(l:List AV):isVal (.agg l)=true:=rfl
@[simp high]theorem part2(a b:UInt64):partK (.agg 2) [w64 a,w64 b] 0=some (.agg [w64 a,w64 b]):=rfl
@[simp high]theorem part5(a b c d e:UInt64):partK (.agg 5) [w64 a,w64 b,w64 c,w64 d,w64 e] 0=some (.agg [w64 a,w64 b,w64 c,w64 d,w64 e]):=rfl
@[simp]theorem dat_w64(x:UInt64):Dat (w64 x):=(datC_w64 x).dat
@[simp high]theorem w64_iv(x:UInt64):isVal (w64 x)=true:=rfl
@[simp high]theorem w64_st(x:UInt64):strip (w64 x)=w64 x:=rfl
@[simp high]theorem w64_cs(x:UInt64):(w64 x).cells=[w64 x]:=rfl
@[simp high]theorem w64_pl(x:UInt64):plain (w64 x)=true:=rfl
@[simp high]theorem w64_nc(x:UInt64):normc (w64 x)=w64 x:=rfl
@[simp]theorem w64_tr(t:List (Option Nat))(x:UInt64):takeRes t (w64 x)=(w64 x,t):=rfl
@[simp]theorem w64_tr2(t:List (Option Nat))(x y:UInt64):takeRet t (.tup [w64 x,w64 y])=(.tup [w64 x,w64 y],t):=rfl
@[simp]theorem w64_pr2(x y:UInt64):plainRes (.tup [w64 x,w64 y])=true:=rfl
def car(x y:UInt64):UInt64:=UInt64.ofNat ((x.toNat+y.toNat)/18446744073709551616)
theorem car_nat(x y:UInt64):(car x y).toNat=(x.toNat+y.toNat)/18446744073709551616:=by
 unfold car
 have hx:=x64_lt x
 have hy:=x64_lt y
 rw[UInt64.toNat_ofNat',Nat.mod_eq_of_lt (by omega)]
@[simp]theorem ext_add(x y:UInt64):extV 0 [w64 x,w64 y,.int .u64 0]=some (.tup [w64 (x+y),w64 (car x y)]):=by
  have hx:=x64_lt x
  have hy:=x64_lt y
  simp only[extV,w64]
  rw[if_pos (by omega),car_nat,UInt64.toNat_add]
  have e1:((x.toNat:Int)+(y.toNat:Int)+0)%18446744073709551616=((((x.toNat+y.toNat)%2^64:Nat)):Int):=by omega
  have e2:((x.toNat:Int)+(y.toNat:Int)+0)/18446744073709551616=((((x.toNat+y.toNat)/18446744073709551616:Nat)):Int):=by omega
  rw[e1,e2]
@[simp]theorem ext_addc(x y a b:UInt64):extV 0 [w64 x,w64 y,w64 (car a b)]=some (.tup [w64 (x+y+car a b),.int .u64 (((x.toNat+y.toNat+(car a b).toNat)/18446744073709551616:Nat):Int)]):=by
  have hx:=x64_lt x
  have hy:=x64_lt y
  have ha:=x64_lt a
  have hb:=x64_lt b
  have hc:(car a b).toNat≤1:=by rw[car_nat];omega
  simp only[extV,w64]
  rw[if_pos (by omega),UInt64.toNat_add,UInt64.toNat_add]
  have e1:((x.toNat:Int)+(y.toNat:Int)+((car a b).toNat:Int))%18446744073709551616=(((((x.toNat+y.toNat)%2^64+(car a b).toNat)%2^64:Nat)):Int):=by omega
  have e2:((x.toNat:Int)+(y.toNat:Int)+((car a b).toNat:Int))/18446744073709551616=((((x.toNat+y.toNat+(car a b).toNat)/18446744073709551616:Nat)):Int):=by omega
  rw[e1,e2]
theorem F_bits_Mul64(x y:UInt64)(S:St):DF lib nk 114 [w64 x,w64 y] S=some (.tup [w64 (mulH x y),w64 (x*y)],S):=by
 have a1:∀z,binIK .and (w64 z) (.int .u64 4294967295)=some (w64 (z&&&4294967295)):=fun z=>w64_and z 4294967295
 have s1:∀z,binIK .shr (w64 z) (.int .u64 32)=some (w64 (shr64 z 32)):=fun z=>w64_shr z 32 (by omega) .u64
 rw[run_math_bits_Mul64,DC_of c_math_bits_Mul64.eq_1]
 simp[-binIK,a1,s1,mulH_eq]
@[simp high]theorem w64_s51(x:UInt64):binIK .shr (w64 x) (.int .u64 51)=some (w64 (shr64 x 51)):=w64_shr x 51 (by omega) .u64
@[simp high]theorem w64_l13(x:UInt64):binIK .shl (w64 x) (.int .u64 13)=some (w64 (shl64 x 13)):=w64_shl x 13 (by omega) .u64
@[simp high]theorem w64_mask(x:UInt64):binIK .and (w64 x) (.int .u64 2251799813685247)=some (w64 (x&&&2251799813685247)):=w64_and x 2251799813685247
@[simp high]theorem w64_m19(x:UInt64):binIK .mul (.int .u64 19) (w64 x)=some (w64 (19*x)):=w64_mul 19 x
@[simp high]theorem w64_f0(x:UInt64):binIK .sub (.int .u64 4503599627370458) (w64 x)=some (w64 (4503599627370458 -x)):=w64_sub 4503599627370458 x
@[simp high]theorem w64_f1(x:UInt64):binIK .sub (.int .u64 4503599627370494) (w64 x)=some (w64 (4503599627370494 -x)):=w64_sub 4503599627370494 x
theorem bK_add(a b:Int):binIK .add (.int .i64 a) (.int .i64 b)=some (.int .i64 (IntKind.wrap .i64 (a+b))):=rfl
theorem bK_sub(a b:Int):binIK .sub (.int .i64 a) (.int .i64 b)=some (.int .i64 (IntKind.wrap .i64 (a -b))):=rfl
theorem bK_lss(a b:Int):binIK .lss (.int .i64 a) (.int .i64 b)=some (.bool (decide (a<b))):=rfl
theorem bK_geq(a b:Int):binIK .geq (.int .i64 a) (.int .i64 b)=some (.bool (decide (a≥b))):=rfl
theorem bK_eql(a b:Int):binIK .eql (.int .i64 a) (.int .i64 b)=some (.bool (a==b)):=rfl
@[simp]theorem wr_0:IntKind.wrap .i64 0=0:=rfl
@[simp]theorem wr_1:IntKind.wrap .i64 1=1:=rfl
@[simp]theorem wr_2:IntKind.wrap .i64 2=2:=rfl
@[simp]theorem wr_3:IntKind.wrap .i64 3=3:=rfl
@[simp]theorem wr_4:IntKind.wrap .i64 4=4:=rfl
@[simp]theorem wr_5:IntKind.wrap .i64 5=5:=rfl
@[simp]theorem wr_6:IntKind.wrap .i64 6=6:=rfl
@[simp]theorem wr_7:IntKind.wrap .i64 7=7:=rfl
@[simp]theorem wr_8:IntKind.wrap .i64 8=8:=rfl
@[simp]theorem wr_9:IntKind.wrap .i64 9=9:=rfl
@[simp]theorem wr_10:IntKind.wrap .i64 10=10:=rfl
def plH(hi lo a b:UInt64):UInt64:=hi+mulH a b+car lo (a*b)
def plL(lo a b:UInt64):UInt64:=lo+a*b
theorem F_wide_plus(hi lo a b:UInt64)(S:St):DF lib nk 112 [.agg [w64 hi,w64 lo],w64 a,w64 b] S=some (.agg [w64 (plH hi lo a b),w64 (plL lo a b)],S):=by
 rw[run_field_wide_plus,DC_of c_field_wide_plus.eq_1]
 simp[F_bits_Mul64,plH,plL,fillK,splice, -isVal, -AV.cells]
section
def crA(a e:UInt64):UInt64:=(a&&&2251799813685247)+19*shr64 e 51
def crB(x y:UInt64):UInt64:=(y&&&2251799813685247)+shr64 x 51
theorem crA_f(a e:UInt64):(a&&&2251799813685247)+19*shr64 e 51=crA a e:=rfl
theorem crB_f(x y:UInt64):(y&&&2251799813685247)+shr64 x 51=crB x y:=rfl
section
variable(S:St)(b0 b1:Box)(a b c d e:UInt64)
theorem carry0_5:DC lib nk (.loop l_field_Elem_carry_0) ⟨[(1,.ptr S.length 0),(2,.ptr (S.length+1) 0),(3,.ptr (S.length+2) 0),(8,.agg [w64 a,w64 b,w64 c,w64 d,w64 e]),(9,.int .i64 5)],[],S.length⟩ (S++[b0,b1,.mem [w64 (shr64 a 51),w64 (shr64 b 51),w64 (shr64 c 51),w64 (shr64 d 51),w64 (shr64 e 51)] [] false])=some (.exit 0,⟨[(1,.ptr S.length 0),(2,.ptr (S.length+1) 0),(3,.ptr (S.length+2) 0)],[],S.length⟩,S++[b0,b1,.mem [w64 (shr64 a 51),w64 (shr64 b 51),w64 (shr64 c 51),w64 (shr64 d 51),w64 (shr64 e 51)] [] false]):=by
 rw[DC_loop',DC_of l_field_Elem_carry_0.eq_1]
 simp[splice, -AV.cells, -isVal, -binIK,bK_add,bK_sub,bK_lss,bK_geq,bK_eql]
theorem carry0_4:DC lib nk (.loop l_field_Elem_carry_0) ⟨[(1,.ptr S.length 0),(2,.ptr (S.length+1) 0),(3,.ptr (S.length+2) 0),(8,.agg [w64 a,w64 b,w64 c,w64 d,w64 e]),(9,.int .i64 4)],[],S.length⟩ (S++[b0,b1,.mem [w64 (shr64 a 51),w64 (shr64 b 51),w64 (shr64 c 51),w64 (shr64 d 51),.int .u64 0] [] false])=some (.exit 0,⟨[(1,.ptr S.length 0),(2,.ptr (S.length+1) 0),(3,.ptr (S.length+2) 0)],[],S.length⟩,S++[b0,b1,.mem [w64 (shr64 a 51),w64 (shr64 b 51),w64 (shr64 c 51),w64 (shr64 d 51),w64 (shr64 e 51)] [] false]):=by
 rw[DC_loop',DC_of l_field_Elem_carry_0.eq_1]
 simp[splice, -AV.cells, -isVal, -binIK,bK_add,bK_sub,bK_lss,bK_geq,bK_eql]
 rw[DC_keep_of l_field_Elem_carry_0.eq_1]
 simp[carry0_5,splice, -AV.cells, -isVal, -binIK,bK_add,bK_sub,bK_lss,bK_geq,bK_eql]
theorem carry0_3:DC lib nk (.loop l_field_Elem_carry_0) ⟨[(1,.ptr S.length 0),(2,.ptr (S.length+1) 0),(3,.ptr (S.length+2) 0),(8,.agg [w64 a,w64 b,w64 c,w64 d,w64 e]),(9,.int .i64 3)],[],S.length⟩ (S++[b0,b1,.mem [w64 (shr64 a 51),w64 (shr64 b 51),w64 (shr64 c 51),.int .u64 0,.int .u64 0] [] false])=some (.exit 0,⟨[(1,.ptr S.length 0),(2,.ptr (S.length+1) 0),(3,.ptr (S.length+2) 0)],[],S.length⟩,S++[b0,b1,.mem [w64 (shr64 a 51),w64 (shr64 b 51),w64 (shr64 c 51),w64 (shr64 d 51),w64 (shr64 e 51)] [] false]):=by
 rw[DC_loop',DC_of l_field_Elem_carry_0.eq_1]
 simp[splice, -AV.cells, -isVal, -binIK,bK_add,bK_sub,bK_lss,bK_geq,bK_eql]
 rw[DC_keep_of l_field_Elem_carry_0.eq_1]
 simp[carry0_4,splice, -AV.cells, -isVal, -binIK,bK_add,bK_sub,bK_lss,bK_geq,bK_eql]
theorem carry0_2:DC lib nk (.loop l_field_Elem_carry_0) ⟨[(1,.ptr S.length 0),(2,.ptr (S.length+1) 0),(3,.ptr (S.length+2) 0),(8,.agg [w64 a,w64 b,w64 c,w64 d,w64 e]),(9,.int .i64 2)],[],S.length⟩ (S++[b0,b1,.mem [w64 (shr64 a 51),w64 (shr64 b 51),.int .u64 0,.int .u64 0,.int .u64 0] [] false])=some (.exit 0,⟨[(1,.ptr S.length 0),(2,.ptr (S.length+1) 0),(3,.ptr (S.length+2) 0)],[],S.length⟩,S++[b0,b1,.mem [w64 (shr64 a 51),w64 (shr64 b 51),w64 (shr64 c 51),w64 (shr64 d 51),w64 (shr64 e 51)] [] false]):=by
 rw[DC_loop',DC_of l_field_Elem_carry_0.eq_1]
 simp[splice, -AV.cells, -isVal, -binIK,bK_add,bK_sub,bK_lss,bK_geq,bK_eql]
 rw[DC_keep_of l_field_Elem_carry_0.eq_1]
 simp[carry0_3,splice, -AV.cells, -isVal, -binIK,bK_add,bK_sub,bK_lss,bK_geq,bK_eql]
theorem carry0_1:DC lib nk (.loop l_field_Elem_carry_0) ⟨[(1,.ptr S.length 0),(2,.ptr (S.length+1) 0),(3,.ptr (S.length+2) 0),(8,.agg [w64 a,w64 b,w64 c,w64 d,w64 e]),(9,.int .i64 1)],[],S.length⟩ (S++[b0,b1,.mem [w64 (shr64 a 51),.int .u64 0,.int .u64 0,.int .u64 0,.int .u64 0] [] false])=some (.exit 0,⟨[(1,.ptr S.length 0),(2,.ptr (S.length+1) 0),(3,.ptr (S.length+2) 0)],[],S.length⟩,S++[b0,b1,.mem [w64 (shr64 a 51),w64 (shr64 b 51),w64 (shr64 c 51),w64 (shr64 d 51),w64 (shr64 e 51)] [] false]):=by
 rw[DC_loop',DC_of l_field_Elem_carry_0.eq_1]
 simp[splice, -AV.cells, -isVal, -binIK,bK_add,bK_sub,bK_lss,bK_geq,bK_eql]
 rw[DC_keep_of l_field_Elem_carry_0.eq_1]
 simp[carry0_2,splice, -AV.cells, -isVal, -binIK,bK_add,bK_sub,bK_lss,bK_geq,bK_eql]
theorem carry0_0:DC lib nk (.loop l_field_Elem_carry_0) ⟨[(1,.ptr S.length 0),(2,.ptr (S.length+1) 0),(3,.ptr (S.length+2) 0),(8,.agg [w64 a,w64 b,w64 c,w64 d,w64 e]),(9,.int .i64 0)],[],S.length⟩ (S++[b0,b1,.mem [.int .u64 0,.int .u64 0,.int .u64 0,.int .u64 0,.int .u64 0] [] false])=some (.exit 0,⟨[(1,.ptr S.length 0),(2,.ptr (S.length+1) 0),(3,.ptr (S.length+2) 0)],[],S.length⟩,S++[b0,b1,.mem [w64 (shr64 a 51),w64 (shr64 b 51),w64 (shr64 c 51),w64 (shr64 d 51),w64 (shr64 e 51)] [] false]):=by
 rw[DC_loop',DC_of l_field_Elem_carry_0.eq_1]
 simp[splice, -AV.cells, -isVal, -binIK,bK_add,bK_sub,bK_lss,bK_geq,bK_eql]
 rw[DC_keep_of l_field_Elem_carry_0.eq_1]
 simp[carry0_1,splice, -AV.cells, -isVal, -binIK,bK_add,bK_sub,bK_lss,bK_geq,bK_eql]
end
section
variable(S:St)(b0:Box)(a b c d e:UInt64)
theorem carry1_5:DC lib nk (.loop l_field_Elem_carry_1) ⟨[(1,.ptr S.length 0),(2,.ptr (S.length+1) 0),(3,.ptr (S.length+2) 0),(18,.int .i64 5)],[],S.length⟩ (S++[.mem [w64 (crA a e),w64 (crB a b),w64 (crB b c),w64 (crB c d),w64 (crB d e)] [] false,b0,.mem [w64 (shr64 a 51),w64 (shr64 b 51),w64 (shr64 c 51),w64 (shr64 d 51),w64 (shr64 e 51)] [] false])=some (.exit 2,⟨[(1,.ptr S.length 0),(2,.ptr (S.length+1) 0)],[],S.length⟩,S++[.mem [w64 (crA a e),w64 (crB a b),w64 (crB b c),w64 (crB c d),w64 (crB d e)] [] false,b0,.mem [w64 (shr64 a 51),w64 (shr64 b 51),w64 (shr64 c 51),w64 (shr64 d 51),w64 (shr64 e 51)] [] false]):=by
 rw[DC_loop',DC_of l_field_Elem_carry_1.eq_1]
 simp[splice, -AV.cells, -isVal, -binIK,bK_add,bK_sub,bK_lss,bK_geq,bK_eql]
theorem carry1_4:DC lib nk (.loop l_field_Elem_carry_1) ⟨[(1,.ptr S.length 0),(2,.ptr (S.length+1) 0),(3,.ptr (S.length+2) 0),(18,.int .i64 4)],[],S.length⟩ (S++[.mem [w64 (crA a e),w64 (crB a b),w64 (crB b c),w64 (crB c d),w64 e] [] false,b0,.mem [w64 (shr64 a 51),w64 (shr64 b 51),w64 (shr64 c 51),w64 (shr64 d 51),w64 (shr64 e 51)] [] false])=some (.exit 2,⟨[(1,.ptr S.length 0),(2,.ptr (S.length+1) 0)],[],S.length⟩,S++[.mem [w64 (crA a e),w64 (crB a b),w64 (crB b c),w64 (crB c d),w64 (crB d e)] [] false,b0,.mem [w64 (shr64 a 51),w64 (shr64 b 51),w64 (shr64 c 51),w64 (shr64 d 51),w64 (shr64 e 51)] [] false]):=by
 rw[DC_loop',DC_of l_field_Elem_carry_1.eq_1]
 simp[splice, -AV.cells, -isVal, -binIK,bK_add,bK_sub,bK_lss,bK_geq,bK_eql,crA_f,crB_f]
 rw[DC_keep_of l_field_Elem_carry_1.eq_1]
 simp[carry1_5,splice, -AV.cells, -isVal, -binIK,bK_add,bK_sub,bK_lss,bK_geq,bK_eql,crA_f,crB_f]
theorem carry1_3:DC lib nk (.loop l_field_Elem_carry_1) ⟨[(1,.ptr S.length 0),(2,.ptr (S.length+1) 0),(3,.ptr (S.length+2) 0),(18,.int .i64 3)],[],S.length⟩ (S++[.mem [w64 (crA a e),w64 (crB a b),w64 (crB b c),w64 d,w64 e] [] false,b0,.mem [w64 (shr64 a 51),w64 (shr64 b 51),w64 (shr64 c 51),w64 (shr64 d 51),w64 (shr64 e 51)] [] false])=some (.exit 2,⟨[(1,.ptr S.length 0),(2,.ptr (S.length+1) 0)],[],S.length⟩,S++[.mem [w64 (crA a e),w64 (crB a b),w64 (crB b c),w64 (crB c d),w64 (crB d e)] [] false,b0,.mem [w64 (shr64 a 51),w64 (shr64 b 51),w64 (shr64 c 51),w64 (shr64 d 51),w64 (shr64 e 51)] [] false]):=by
 rw[DC_loop',DC_of l_field_Elem_carry_1.eq_1]
 simp[splice, -AV.cells, -isVal, -binIK,bK_add,bK_sub,bK_lss,bK_geq,bK_eql,crA_f,crB_f]
 rw[DC_keep_of l_field_Elem_carry_1.eq_1]
 simp[carry1_4,splice, -AV.cells, -isVal, -binIK,bK_add,bK_sub,bK_lss,bK_geq,bK_eql,crA_f,crB_f]
theorem carry1_2:DC lib nk (.loop l_field_Elem_carry_1) ⟨[(1,.ptr S.length 0),(2,.ptr (S.length+1) 0),(3,.ptr (S.length+2) 0),(18,.int .i64 2)],[],S.length⟩ (S++[.mem [w64 (crA a e),w64 (crB a b),w64 c,w64 d,w64 e] [] false,b0,.mem [w64 (shr64 a 51),w64 (shr64 b 51),w64 (shr64 c 51),w64 (shr64 d 51),w64 (shr64 e 51)] [] false])=some (.exit 2,⟨[(1,.ptr S.length 0),(2,.ptr (S.length+1) 0)],[],S.length⟩,S++[.mem [w64 (crA a e),w64 (crB a b),w64 (crB b c),w64 (crB c d),w64 (crB d e)] [] false,b0,.mem [w64 (shr64 a 51),w64 (shr64 b 51),w64 (shr64 c 51),w64 (shr64 d 51),w64 (shr64 e 51)] [] false]):=by
 rw[DC_loop',DC_of l_field_Elem_carry_1.eq_1]
 simp[splice, -AV.cells, -isVal, -binIK,bK_add,bK_sub,bK_lss,bK_geq,bK_eql,crA_f,crB_f]
 rw[DC_keep_of l_field_Elem_carry_1.eq_1]
 simp[carry1_3,splice, -AV.cells, -isVal, -binIK,bK_add,bK_sub,bK_lss,bK_geq,bK_eql,crA_f,crB_f]
theorem carry1_1:DC lib nk (.loop l_field_Elem_carry_1) ⟨[(1,.ptr S.length 0),(2,.ptr (S.length+1) 0),(3,.ptr (S.length+2) 0),(18,.int .i64 1)],[],S.length⟩ (S++[.mem [w64 (crA a e),w64 b,w64 c,w64 d,w64 e] [] false,b0,.mem [w64 (shr64 a 51),w64 (shr64 b 51),w64 (shr64 c 51),w64 (shr64 d 51),w64 (shr64 e 51)] [] false])=some (.exit 2,⟨[(1,.ptr S.length 0),(2,.ptr (S.length+1) 0)],[],S.length⟩,S++[.mem [w64 (crA a e),w64 (crB a b),w64 (crB b c),w64 (crB c d),w64 (crB d e)] [] false,b0,.mem [w64 (shr64 a 51),w64 (shr64 b 51),w64 (shr64 c 51),w64 (shr64 d 51),w64 (shr64 e 51)] [] false]):=by
 rw[DC_loop',DC_of l_field_Elem_carry_1.eq_1]
 simp[splice, -AV.cells, -isVal, -binIK,bK_add,bK_sub,bK_lss,bK_geq,bK_eql,crA_f,crB_f]
 rw[DC_keep_of l_field_Elem_carry_1.eq_1]
 simp[carry1_2,splice, -AV.cells, -isVal, -binIK,bK_add,bK_sub,bK_lss,bK_geq,bK_eql,crA_f,crB_f]
theorem carry1_0:DC lib nk (.loop l_field_Elem_carry_1) ⟨[(1,.ptr S.length 0),(2,.ptr (S.length+1) 0),(3,.ptr (S.length+2) 0),(18,.int .i64 0)],[],S.length⟩ (S++[.mem [w64 a,w64 b,w64 c,w64 d,w64 e] [] false,b0,.mem [w64 (shr64 a 51),w64 (shr64 b 51),w64 (shr64 c 51),w64 (shr64 d 51),w64 (shr64 e 51)] [] false])=some (.exit 2,⟨[(1,.ptr S.length 0),(2,.ptr (S.length+1) 0)],[],S.length⟩,S++[.mem [w64 (crA a e),w64 (crB a b),w64 (crB b c),w64 (crB c d),w64 (crB d e)] [] false,b0,.mem [w64 (shr64 a 51),w64 (shr64 b 51),w64 (shr64 c 51),w64 (shr64 d 51),w64 (shr64 e 51)] [] false]):=by
 rw[DC_loop',DC_of l_field_Elem_carry_1.eq_1]
 simp[splice, -AV.cells, -isVal, -binIK,bK_add,bK_sub,bK_lss,bK_geq,bK_eql,crA_f,crB_f]
 rw[DC_keep_of l_field_Elem_carry_1.eq_1]
 simp[carry1_1,splice, -AV.cells, -isVal, -binIK,bK_add,bK_sub,bK_lss,bK_geq,bK_eql,crA_f,crB_f]
end
theorem F_carry(a b c d e:UInt64)(S:St):DF lib nk 115 [.agg [w64 a,w64 b,w64 c,w64 d,w64 e]] S=some (.agg [w64 (crA a e),w64 (crB a b),w64 (crB b c),w64 (crB c d),w64 (crB d e)],S):=by
 rw[run_field_Elem_carry,DC_of c_field_Elem_carry.eq_1]
 simp[splice, -AV.cells, -isVal, -binIK,bK_add,bK_sub,bK_lss,bK_geq,bK_eql]
 rw[DC_keep_of l_field_Elem_carry_0.eq_1]
 simp[carry0_0,splice, -AV.cells, -isVal, -binIK,bK_add,bK_sub,bK_lss,bK_geq,bK_eql]
 rw[DC_keep_of l_field_Elem_carry_1.eq_1]
 simp[carry1_0,splice, -AV.cells, -isVal, -binIK,bK_add,bK_sub,bK_lss,bK_geq,bK_eql]
section
variable(S:St)(b0:Box)(a b c d e a' b' c' d' e':UInt64)
theorem add0_5:DC lib nk (.loop l_field_Elem_Add_0) ⟨[(2,.ptr S.length 0),(3,.ptr (S.length+1) 0),(4,.ptr (S.length+2) 0),(6,.int .i64 5)],[],S.length⟩ (S++[.mem [w64 (a+a'),w64 (b+b'),w64 (c+c'),w64 (d+d'),w64 (e+e')] [] false,.mem [w64 a',w64 b',w64 c',w64 d',w64 e'] [] false,b0])=some (.exit 0,⟨[(2,.ptr S.length 0),(4,.ptr (S.length+2) 0)],[],S.length⟩,S++[.mem [w64 (a+a'),w64 (b+b'),w64 (c+c'),w64 (d+d'),w64 (e+e')] [] false,.mem [w64 a',w64 b',w64 c',w64 d',w64 e'] [] false,b0]):=by
 rw[DC_loop',DC_of l_field_Elem_Add_0.eq_1]
 simp[splice, -AV.cells, -isVal, -binIK,bK_add,bK_sub,bK_lss,bK_geq,bK_eql]
theorem add0_4:DC lib nk (.loop l_field_Elem_Add_0) ⟨[(2,.ptr S.length 0),(3,.ptr (S.length+1) 0),(4,.ptr (S.length+2) 0),(6,.int .i64 4)],[],S.length⟩ (S++[.mem [w64 (a+a'),w64 (b+b'),w64 (c+c'),w64 (d+d'),w64 e] [] false,.mem [w64 a',w64 b',w64 c',w64 d',w64 e'] [] false,b0])=some (.exit 0,⟨[(2,.ptr S.length 0),(4,.ptr (S.length+2) 0)],[],S.length⟩,S++[.mem [w64 (a+a'),w64 (b+b'),w64 (c+c'),w64 (d+d'),w64 (e+e')] [] false,.mem [w64 a',w64 b',w64 c',w64 d',w64 e'] [] false,b0]):=by
 rw[DC_loop',DC_of l_field_Elem_Add_0.eq_1]
 simp[splice, -AV.cells, -isVal, -binIK,bK_add,bK_sub,bK_lss,bK_geq,bK_eql]
 rw[DC_keep_of l_field_Elem_Add_0.eq_1]
 simp[add0_5,splice, -AV.cells, -isVal, -binIK,bK_add,bK_sub,bK_lss,bK_geq,bK_eql]
theorem add0_3:DC lib nk (.loop l_field_Elem_Add_0) ⟨[(2,.ptr S.length 0),(3,.ptr (S.length+1) 0),(4,.ptr (S.length+2) 0),(6,.int .i64 3)],[],S.length⟩ (S++[.mem [w64 (a+a'),w64 (b+b'),w64 (c+c'),w64 d,w64 e] [] false,.mem [w64 a',w64 b',w64 c',w64 d',w64 e'] [] false,b0])=some (.exit 0,⟨[(2,.ptr S.length 0),(4,.ptr (S.length+2) 0)],[],S.length⟩,S++[.mem [w64 (a+a'),w64 (b+b'),w64 (c+c'),w64 (d+d'),w64 (e+e')] [] false,.mem [w64 a',w64 b',w64 c',w64 d',w64 e'] [] false,b0]):=by
 rw[DC_loop',DC_of l_field_Elem_Add_0.eq_1]
 simp[splice, -AV.cells, -isVal, -binIK,bK_add,bK_sub,bK_lss,bK_geq,bK_eql]
 rw[DC_keep_of l_field_Elem_Add_0.eq_1]
 simp[add0_4,splice, -AV.cells, -isVal, -binIK,bK_add,bK_sub,bK_lss,bK_geq,bK_eql]
theorem add0_2:DC lib nk (.loop l_field_Elem_Add_0) ⟨[(2,.ptr S.length 0),(3,.ptr (S.length+1) 0),(4,.ptr (S.length+2) 0),(6,.int .i64 2)],[],S.length⟩ (S++[.mem [w64 (a+a'),w64 (b+b'),w64 c,w64 d,w64 e] [] false,.mem [w64 a',w64 b',w64 c',w64 d',w64 e'] [] false,b0])=some (.exit 0,⟨[(2,.ptr S.length 0),(4,.ptr (S.length+2) 0)],[],S.length⟩,S++[.mem [w64 (a+a'),w64 (b+b'),w64 (c+c'),w64 (d+d'),w64 (e+e')] [] false,.mem [w64 a',w64 b',w64 c',w64 d',w64 e'] [] false,b0]):=by
 rw[DC_loop',DC_of l_field_Elem_Add_0.eq_1]
 simp[splice, -AV.cells, -isVal, -binIK,bK_add,bK_sub,bK_lss,bK_geq,bK_eql]
 rw[DC_keep_of l_field_Elem_Add_0.eq_1]
 simp[add0_3,splice, -AV.cells, -isVal, -binIK,bK_add,bK_sub,bK_lss,bK_geq,bK_eql]
theorem add0_1:DC lib nk (.loop l_field_Elem_Add_0) ⟨[(2,.ptr S.length 0),(3,.ptr (S.length+1) 0),(4,.ptr (S.length+2) 0),(6,.int .i64 1)],[],S.length⟩ (S++[.mem [w64 (a+a'),w64 b,w64 c,w64 d,w64 e] [] false,.mem [w64 a',w64 b',w64 c',w64 d',w64 e'] [] false,b0])=some (.exit 0,⟨[(2,.ptr S.length 0),(4,.ptr (S.length+2) 0)],[],S.length⟩,S++[.mem [w64 (a+a'),w64 (b+b'),w64 (c+c'),w64 (d+d'),w64 (e+e')] [] false,.mem [w64 a',w64 b',w64 c',w64 d',w64 e'] [] false,b0]):=by
 rw[DC_loop',DC_of l_field_Elem_Add_0.eq_1]
 simp[splice, -AV.cells, -isVal, -binIK,bK_add,bK_sub,bK_lss,bK_geq,bK_eql]
 rw[DC_keep_of l_field_Elem_Add_0.eq_1]
 simp[add0_2,splice, -AV.cells, -isVal, -binIK,bK_add,bK_sub,bK_lss,bK_geq,bK_eql]
theorem add0_0:DC lib nk (.loop l_field_Elem_Add_0) ⟨[(2,.ptr S.length 0),(3,.ptr (S.length+1) 0),(4,.ptr (S.length+2) 0),(6,.int .i64 0)],[],S.length⟩ (S++[.mem [w64 a,w64 b,w64 c,w64 d,w64 e] [] false,.mem [w64 a',w64 b',w64 c',w64 d',w64 e'] [] false,b0])=some (.exit 0,⟨[(2,.ptr S.length 0),(4,.ptr (S.length+2) 0)],[],S.length⟩,S++[.mem [w64 (a+a'),w64 (b+b'),w64 (c+c'),w64 (d+d'),w64 (e+e')] [] false,.mem [w64 a',w64 b',w64 c',w64 d',w64 e'] [] false,b0]):=by
 rw[DC_loop',DC_of l_field_Elem_Add_0.eq_1]
 simp[splice, -AV.cells, -isVal, -binIK,bK_add,bK_sub,bK_lss,bK_geq,bK_eql]
 rw[DC_keep_of l_field_Elem_Add_0.eq_1]
 simp[add0_1,splice, -AV.cells, -isVal, -binIK,bK_add,bK_sub,bK_lss,bK_geq,bK_eql]
theorem sub0_5:DC lib nk (.loop l_field_Elem_Sub_0) ⟨[(2,.ptr S.length 0),(3,.ptr (S.length+1) 0),(4,.ptr (S.length+2) 0),(6,.int .i64 5)],[],S.length⟩ (S++[.mem [w64 (a+(4503599627370458 -a')),w64 (b+(4503599627370494 -b')),w64 (c+(4503599627370494 -c')),w64 (d+(4503599627370494 -d')),w64 (e+(4503599627370494 -e'))] [] false,.mem [w64 a',w64 b',w64 c',w64 d',w64 e'] [] false,b0])=some (.exit 0,⟨[(2,.ptr S.length 0),(4,.ptr (S.length+2) 0)],[],S.length⟩,S++[.mem [w64 (a+(4503599627370458 -a')),w64 (b+(4503599627370494 -b')),w64 (c+(4503599627370494 -c')),w64 (d+(4503599627370494 -d')),w64 (e+(4503599627370494 -e'))] [] false,.mem [w64 a',w64 b',w64 c',w64 d',w64 e'] [] false,b0]):=by
 rw[DC_loop',DC_of l_field_Elem_Sub_0.eq_1]
 simp[splice, -AV.cells, -isVal, -binIK,bK_add,bK_sub,bK_lss,bK_geq,bK_eql]
theorem sub0_4:DC lib nk (.loop l_field_Elem_Sub_0) ⟨[(2,.ptr S.length 0),(3,.ptr (S.length+1) 0),(4,.ptr (S.length+2) 0),(6,.int .i64 4)],[],S.length⟩ (S++[.mem [w64 (a+(4503599627370458 -a')),w64 (b+(4503599627370494 -b')),w64 (c+(4503599627370494 -c')),w64 (d+(4503599627370494 -d')),w64 e] [] false,.mem [w64 a',w64 b',w64 c',w64 d',w64 e'] [] false,b0])=some (.exit 0,⟨[(2,.ptr S.length 0),(4,.ptr (S.length+2) 0)],[],S.length⟩,S++[.mem [w64 (a+(4503599627370458 -a')),w64 (b+(4503599627370494 -b')),w64 (c+(4503599627370494 -c')),w64 (d+(4503599627370494 -d')),w64 (e+(4503599627370494 -e'))] [] false,.mem [w64 a',w64 b',w64 c',w64 d',w64 e'] [] false,b0]):=by
 rw[DC_loop',DC_of l_field_Elem_Sub_0.eq_1]
 simp[splice, -AV.cells, -isVal, -binIK,bK_add,bK_sub,bK_lss,bK_geq,bK_eql]
 rw[DC_keep_of l_field_Elem_Sub_0.eq_1]
 simp[sub0_5,splice, -AV.cells, -isVal, -binIK,bK_add,bK_sub,bK_lss,bK_geq,bK_eql]
theorem sub0_3:DC lib nk (.loop l_field_Elem_Sub_0) ⟨[(2,.ptr S.length 0),(3,.ptr (S.length+1) 0),(4,.ptr (S.length+2) 0),(6,.int .i64 3)],[],S.length⟩ (S++[.mem [w64 (a+(4503599627370458 -a')),w64 (b+(4503599627370494 -b')),w64 (c+(4503599627370494 -c')),w64 d,w64 e] [] false,.mem [w64 a',w64 b',w64 c',w64 d',w64 e'] [] false,b0])=some (.exit 0,⟨[(2,.ptr S.length 0),(4,.ptr (S.length+2) 0)],[],S.length⟩,S++[.mem [w64 (a+(4503599627370458 -a')),w64 (b+(4503599627370494 -b')),w64 (c+(4503599627370494 -c')),w64 (d+(4503599627370494 -d')),w64 (e+(4503599627370494 -e'))] [] false,.mem [w64 a',w64 b',w64 c',w64 d',w64 e'] [] false,b0]):=by
 rw[DC_loop',DC_of l_field_Elem_Sub_0.eq_1]
 simp[splice, -AV.cells, -isVal, -binIK,bK_add,bK_sub,bK_lss,bK_geq,bK_eql]
 rw[DC_keep_of l_field_Elem_Sub_0.eq_1]
 simp[sub0_4,splice, -AV.cells, -isVal, -binIK,bK_add,bK_sub,bK_lss,bK_geq,bK_eql]
theorem sub0_2:DC lib nk (.loop l_field_Elem_Sub_0) ⟨[(2,.ptr S.length 0),(3,.ptr (S.length+1) 0),(4,.ptr (S.length+2) 0),(6,.int .i64 2)],[],S.length⟩ (S++[.mem [w64 (a+(4503599627370458 -a')),w64 (b+(4503599627370494 -b')),w64 c,w64 d,w64 e] [] false,.mem [w64 a',w64 b',w64 c',w64 d',w64 e'] [] false,b0])=some (.exit 0,⟨[(2,.ptr S.length 0),(4,.ptr (S.length+2) 0)],[],S.length⟩,S++[.mem [w64 (a+(4503599627370458 -a')),w64 (b+(4503599627370494 -b')),w64 (c+(4503599627370494 -c')),w64 (d+(4503599627370494 -d')),w64 (e+(4503599627370494 -e'))] [] false,.mem [w64 a',w64 b',w64 c',w64 d',w64 e'] [] false,b0]):=by
 rw[DC_loop',DC_of l_field_Elem_Sub_0.eq_1]
 simp[splice, -AV.cells, -isVal, -binIK,bK_add,bK_sub,bK_lss,bK_geq,bK_eql]
 rw[DC_keep_of l_field_Elem_Sub_0.eq_1]
 simp[sub0_3,splice, -AV.cells, -isVal, -binIK,bK_add,bK_sub,bK_lss,bK_geq,bK_eql]
theorem sub0_1:DC lib nk (.loop l_field_Elem_Sub_0) ⟨[(2,.ptr S.length 0),(3,.ptr (S.length+1) 0),(4,.ptr (S.length+2) 0),(6,.int .i64 1)],[],S.length⟩ (S++[.mem [w64 (a+(4503599627370458 -a')),w64 b,w64 c,w64 d,w64 e] [] false,.mem [w64 a',w64 b',w64 c',w64 d',w64 e'] [] false,b0])=some (.exit 0,⟨[(2,.ptr S.length 0),(4,.ptr (S.length+2) 0)],[],S.length⟩,S++[.mem [w64 (a+(4503599627370458 -a')),w64 (b+(4503599627370494 -b')),w64 (c+(4503599627370494 -c')),w64 (d+(4503599627370494 -d')),w64 (e+(4503599627370494 -e'))] [] false,.mem [w64 a',w64 b',w64 c',w64 d',w64 e'] [] false,b0]):=by
 rw[DC_loop',DC_of l_field_Elem_Sub_0.eq_1]
 simp[splice, -AV.cells, -isVal, -binIK,bK_add,bK_sub,bK_lss,bK_geq,bK_eql]
 rw[DC_keep_of l_field_Elem_Sub_0.eq_1]
 simp[sub0_2,splice, -AV.cells, -isVal, -binIK,bK_add,bK_sub,bK_lss,bK_geq,bK_eql]
theorem sub0_0:DC lib nk (.loop l_field_Elem_Sub_0) ⟨[(2,.ptr S.length 0),(3,.ptr (S.length+1) 0),(4,.ptr (S.length+2) 0),(6,.int .i64 0)],[],S.length⟩ (S++[.mem [w64 a,w64 b,w64 c,w64 d,w64 e] [] false,.mem [w64 a',w64 b',w64 c',w64 d',w64 e'] [] false,b0])=some (.exit 0,⟨[(2,.ptr S.length 0),(4,.ptr (S.length+2) 0)],[],S.length⟩,S++[.mem [w64 (a+(4503599627370458 -a')),w64 (b+(4503599627370494 -b')),w64 (c+(4503599627370494 -c')),w64 (d+(4503599627370494 -d')),w64 (e+(4503599627370494 -e'))] [] false,.mem [w64 a',w64 b',w64 c',w64 d',w64 e'] [] false,b0]):=by
 rw[DC_loop',DC_of l_field_Elem_Sub_0.eq_1]
 simp[splice, -AV.cells, -isVal, -binIK,bK_add,bK_sub,bK_lss,bK_geq,bK_eql]
 rw[DC_keep_of l_field_Elem_Sub_0.eq_1]
 simp[sub0_1,splice, -AV.cells, -isVal, -binIK,bK_add,bK_sub,bK_lss,bK_geq,bK_eql]
end
theorem F_Add(a b c d e a' b' c' d' e':UInt64)(S:St):DF lib nk 107 [.agg [w64 a,w64 b,w64 c,w64 d,w64 e],.agg [w64 a',w64 b',w64 c',w64 d',w64 e']] S=some (.agg [w64 (crA (a+a') (e+e')),w64 (crB (a+a') (b+b')),w64 (crB (b+b') (c+c')),w64 (crB (c+c') (d+d')),w64 (crB (d+d') (e+e'))],S):=by
 rw[run_field_Elem_Add,DC_of c_field_Elem_Add.eq_1]
 simp[splice, -AV.cells, -isVal, -binIK,bK_add,bK_sub,bK_lss,bK_geq,bK_eql]
 rw[DC_keep_of l_field_Elem_Add_0.eq_1]
 simp[add0_0,F_carry,splice, -AV.cells, -isVal, -binIK,bK_add,bK_sub,bK_lss,bK_geq,bK_eql]
theorem F_Sub(a b c d e a' b' c' d' e':UInt64)(S:St):DF lib nk 108 [.agg [w64 a,w64 b,w64 c,w64 d,w64 e],.agg [w64 a',w64 b',w64 c',w64 d',w64 e']] S=some (.agg [w64 (crA (a+(4503599627370458 -a')) (e+(4503599627370494 -e'))),w64 (crB (a+(4503599627370458 -a')) (b+(4503599627370494 -b'))),w64 (crB (b+(4503599627370494 -b')) (c+(4503599627370494 -c'))),w64 (crB (c+(4503599627370494 -c')) (d+(4503599627370494 -d'))),w64 (crB (d+(4503599627370494 -d')) (e+(4503599627370494 -e')))],S):=by
 rw[run_field_Elem_Sub,DC_of c_field_Elem_Sub.eq_1]
 simp[splice, -AV.cells, -isVal, -binIK,bK_add,bK_sub,bK_lss,bK_geq,bK_eql]
 rw[DC_keep_of l_field_Elem_Sub_0.eq_1]
 simp[sub0_0,F_carry,splice, -AV.cells, -isVal, -binIK,bK_add,bK_sub,bK_lss,bK_geq,bK_eql]
end
section
@[simp high]theorem part10_0(h0 l0 h1 l1 h2 l2 h3 l3 h4 l4:UInt64):partK (.agg 2) [w64 h0,w64 l0,w64 h1,w64 l1,w64 h2,w64 l2,w64 h3,w64 l3,w64 h4,w64 l4] 0=some (.agg [w64 h0,w64 l0]):=rfl
@[simp high]theorem part10_2(h0 l0 h1 l1 h2 l2 h3 l3 h4 l4:UInt64):partK (.agg 2) [w64 h0,w64 l0,w64 h1,w64 l1,w64 h2,w64 l2,w64 h3,w64 l3,w64 h4,w64 l4] 2=some (.agg [w64 h1,w64 l1]):=rfl
@[simp high]theorem part10_4(h0 l0 h1 l1 h2 l2 h3 l3 h4 l4:UInt64):partK (.agg 2) [w64 h0,w64 l0,w64 h1,w64 l1,w64 h2,w64 l2,w64 h3,w64 l3,w64 h4,w64 l4] 4=some (.agg [w64 h2,w64 l2]):=rfl
@[simp high]theorem part10_6(h0 l0 h1 l1 h2 l2 h3 l3 h4 l4:UInt64):partK (.agg 2) [w64 h0,w64 l0,w64 h1,w64 l1,w64 h2,w64 l2,w64 h3,w64 l3,w64 h4,w64 l4] 6=some (.agg [w64 h3,w64 l3]):=rfl
@[simp high]theorem part10_8(h0 l0 h1 l1 h2 l2 h3 l3 h4 l4:UInt64):partK (.agg 2) [w64 h0,w64 l0,w64 h1,w64 l1,w64 h2,w64 l2,w64 h3,w64 l3,w64 h4,w64 l4] 8=some (.agg [w64 h4,w64 l4]):=rfl
def ovr(h l o:UInt64):UInt64:=shl64 (h+car l o) 13|||shr64 (l+o) 51
def lmb(l o:UInt64):UInt64:=(l+o)&&&2251799813685247
theorem ovr_f(h l o:UInt64):shl64 (h+car l o) 13|||shr64 (l+o) 51=ovr h l o:=rfl
theorem lmb_f(l o:UInt64):(l+o)&&&2251799813685247=lmb l o:=rfl
section
variable(S:St)(x0 x1 x2:Box)(X:AV)(a b0 b1 b2 b3 b4 h0 h1 h2 h3 h4 l0 l1 l2 l3 l4:UInt64)
theorem in0_5:DC lib nk (.loop l_field_Elem_Mul_0) ⟨[(3,.ptr (S.length+1) 0),(4,.ptr (S.length+2) 0),(5,.ptr (S.length+3) 0),(6,.int .i64 0),(7,w64 a),(20,X),(21,.int .i64 0),(26,.agg [w64 b0,w64 b1,w64 b2,w64 b3,w64 b4]),(27,.int .i64 5)],[],S.length⟩ (S++[x0,x1,x2,.mem [w64 (plH h0 l0 a b0),w64 (plL l0 a b0),w64 (plH h1 l1 a b1),w64 (plL l1 a b1),w64 (plH h2 l2 a b2),w64 (plL l2 a b2),w64 (plH h3 l3 a b3),w64 (plL l3 a b3),w64 (plH h4 l4 a b4),w64 (plL l4 a b4)] [] false])=some (.exit 2,⟨[(3,.ptr (S.length+1) 0),(4,.ptr (S.length+2) 0),(5,.ptr (S.length+3) 0),(20,X),(21,.int .i64 0)],[],S.length⟩,S++[x0,x1,x2,.mem [w64 (plH h0 l0 a b0),w64 (plL l0 a b0),w64 (plH h1 l1 a b1),w64 (plL l1 a b1),w64 (plH h2 l2 a b2),w64 (plL l2 a b2),w64 (plH h3 l3 a b3),w64 (plL l3 a b3),w64 (plH h4 l4 a b4),w64 (plL l4 a b4)] [] false]):=by
 rw[DC_loop',DC_of l_field_Elem_Mul_0.eq_1]
 simp[splice, -AV.cells, -isVal, -binIK,bK_add,bK_sub,bK_lss,bK_geq,bK_eql, -UInt64.add_zero]
theorem in0_4:DC lib nk (.loop l_field_Elem_Mul_0) ⟨[(3,.ptr (S.length+1) 0),(4,.ptr (S.length+2) 0),(5,.ptr (S.length+3) 0),(6,.int .i64 0),(7,w64 a),(20,X),(21,.int .i64 0),(26,.agg [w64 b0,w64 b1,w64 b2,w64 b3,w64 b4]),(27,.int .i64 4)],[],S.length⟩ (S++[x0,x1,x2,.mem [w64 (plH h0 l0 a b0),w64 (plL l0 a b0),w64 (plH h1 l1 a b1),w64 (plL l1 a b1),w64 (plH h2 l2 a b2),w64 (plL l2 a b2),w64 (plH h3 l3 a b3),w64 (plL l3 a b3),w64 h4,w64 l4] [] false])=some (.exit 2,⟨[(3,.ptr (S.length+1) 0),(4,.ptr (S.length+2) 0),(5,.ptr (S.length+3) 0),(20,X),(21,.int .i64 0)],[],S.length⟩,S++[x0,x1,x2,.mem [w64 (plH h0 l0 a b0),w64 (plL l0 a b0),w64 (plH h1 l1 a b1),w64 (plL l1 a b1),w64 (plH h2 l2 a b2),w64 (plL l2 a b2),w64 (plH h3 l3 a b3),w64 (plL l3 a b3),w64 (plH h4 l4 a b4),w64 (plL l4 a b4)] [] false]):=by
 rw[DC_loop',DC_of l_field_Elem_Mul_0.eq_1]
 simp[F_wide_plus,splice, -AV.cells, -isVal, -binIK,bK_add,bK_sub,bK_lss,bK_geq,bK_eql, -UInt64.add_zero]
 rw[DC_keep_of l_field_Elem_Mul_0.eq_1]
 simp[in0_5,splice, -AV.cells, -isVal, -binIK,bK_add,bK_sub,bK_lss,bK_geq,bK_eql, -UInt64.add_zero]
theorem in0_3:DC lib nk (.loop l_field_Elem_Mul_0) ⟨[(3,.ptr (S.length+1) 0),(4,.ptr (S.length+2) 0),(5,.ptr (S.length+3) 0),(6,.int .i64 0),(7,w64 a),(20,X),(21,.int .i64 0),(26,.agg [w64 b0,w64 b1,w64 b2,w64 b3,w64 b4]),(27,.int .i64 3)],[],S.length⟩ (S++[x0,x1,x2,.mem [w64 (plH h0 l0 a b0),w64 (plL l0 a b0),w64 (plH h1 l1 a b1),w64 (plL l1 a b1),w64 (plH h2 l2 a b2),w64 (plL l2 a b2),w64 h3,w64 l3,w64 h4,w64 l4] [] false])=some (.exit 2,⟨[(3,.ptr (S.length+1) 0),(4,.ptr (S.length+2) 0),(5,.ptr (S.length+3) 0),(20,X),(21,.int .i64 0)],[],S.length⟩,S++[x0,x1,x2,.mem [w64 (plH h0 l0 a b0),w64 (plL l0 a b0),w64 (plH h1 l1 a b1),w64 (plL l1 a b1),w64 (plH h2 l2 a b2),w64 (plL l2 a b2),w64 (plH h3 l3 a b3),w64 (plL l3 a b3),w64 (plH h4 l4 a b4),w64 (plL l4 a b4)] [] false]):=by
 rw[DC_loop',DC_of l_field_Elem_Mul_0.eq_1]
 simp[F_wide_plus,splice, -AV.cells, -isVal, -binIK,bK_add,bK_sub,bK_lss,bK_geq,bK_eql, -UInt64.add_zero]
 rw[DC_keep_of l_field_Elem_Mul_0.eq_1]
 simp[in0_4,splice, -AV.cells, -isVal, -binIK,bK_add,bK_sub,bK_lss,bK_geq,bK_eql, -UInt64.add_zero]
theorem in0_2:DC lib nk (.loop l_field_Elem_Mul_0) ⟨[(3,.ptr (S.length+1) 0),(4,.ptr (S.length+2) 0),(5,.ptr (S.length+3) 0),(6,.int .i64 0),(7,w64 a),(20,X),(21,.int .i64 0),(26,.agg [w64 b0,w64 b1,w64 b2,w64 b3,w64 b4]),(27,.int .i64 2)],[],S.length⟩ (S++[x0,x1,x2,.mem [w64 (plH h0 l0 a b0),w64 (plL l0 a b0),w64 (plH h1 l1 a b1),w64 (plL l1 a b1),w64 h2,w64 l2,w64 h3,w64 l3,w64 h4,w64 l4] [] false])=some (.exit 2,⟨[(3,.ptr (S.length+1) 0),(4,.ptr (S.length+2) 0),(5,.ptr (S.length+3) 0),(20,X),(21,.int .i64 0)],[],S.length⟩,S++[x0,x1,x2,.mem [w64 (plH h0 l0 a b0),w64 (plL l0 a b0),w64 (plH h1 l1 a b1),w64 (plL l1 a b1),w64 (plH h2 l2 a b2),w64 (plL l2 a b2),w64 (plH h3 l3 a b3),w64 (plL l3 a b3),w64 (plH h4 l4 a b4),w64 (plL l4 a b4)] [] false]):=by
 rw[DC_loop',DC_of l_field_Elem_Mul_0.eq_1]
 simp[F_wide_plus,splice, -AV.cells, -isVal, -binIK,bK_add,bK_sub,bK_lss,bK_geq,bK_eql, -UInt64.add_zero]
 rw[DC_keep_of l_field_Elem_Mul_0.eq_1]
 simp[in0_3,splice, -AV.cells, -isVal, -binIK,bK_add,bK_sub,bK_lss,bK_geq,bK_eql, -UInt64.add_zero]
theorem in0_1:DC lib nk (.loop l_field_Elem_Mul_0) ⟨[(3,.ptr (S.length+1) 0),(4,.ptr (S.length+2) 0),(5,.ptr (S.length+3) 0),(6,.int .i64 0),(7,w64 a),(20,X),(21,.int .i64 0),(26,.agg [w64 b0,w64 b1,w64 b2,w64 b3,w64 b4]),(27,.int .i64 1)],[],S.length⟩ (S++[x0,x1,x2,.mem [w64 (plH h0 l0 a b0),w64 (plL l0 a b0),w64 h1,w64 l1,w64 h2,w64 l2,w64 h3,w64 l3,w64 h4,w64 l4] [] false])=some (.exit 2,⟨[(3,.ptr (S.length+1) 0),(4,.ptr (S.length+2) 0),(5,.ptr (S.length+3) 0),(20,X),(21,.int .i64 0)],[],S.length⟩,S++[x0,x1,x2,.mem [w64 (plH h0 l0 a b0),w64 (plL l0 a b0),w64 (plH h1 l1 a b1),w64 (plL l1 a b1),w64 (plH h2 l2 a b2),w64 (plL l2 a b2),w64 (plH h3 l3 a b3),w64 (plL l3 a b3),w64 (plH h4 l4 a b4),w64 (plL l4 a b4)] [] false]):=by
 rw[DC_loop',DC_of l_field_Elem_Mul_0.eq_1]
 simp[F_wide_plus,splice, -AV.cells, -isVal, -binIK,bK_add,bK_sub,bK_lss,bK_geq,bK_eql, -UInt64.add_zero]
 rw[DC_keep_of l_field_Elem_Mul_0.eq_1]
 simp[in0_2,splice, -AV.cells, -isVal, -binIK,bK_add,bK_sub,bK_lss,bK_geq,bK_eql, -UInt64.add_zero]
theorem in0_0:DC lib nk (.loop l_field_Elem_Mul_0) ⟨[(3,.ptr (S.length+1) 0),(4,.ptr (S.length+2) 0),(5,.ptr (S.length+3) 0),(6,.int .i64 0),(7,w64 a),(20,X),(21,.int .i64 0),(26,.agg [w64 b0,w64 b1,w64 b2,w64 b3,w64 b4]),(27,.int .i64 0)],[],S.length⟩ (S++[x0,x1,x2,.mem [w64 h0,w64 l0,w64 h1,w64 l1,w64 h2,w64 l2,w64 h3,w64 l3,w64 h4,w64 l4] [] false])=some (.exit 2,⟨[(3,.ptr (S.length+1) 0),(4,.ptr (S.length+2) 0),(5,.ptr (S.length+3) 0),(20,X),(21,.int .i64 0)],[],S.length⟩,S++[x0,x1,x2,.mem [w64 (plH h0 l0 a b0),w64 (plL l0 a b0),w64 (plH h1 l1 a b1),w64 (plL l1 a b1),w64 (plH h2 l2 a b2),w64 (plL l2 a b2),w64 (plH h3 l3 a b3),w64 (plL l3 a b3),w64 (plH h4 l4 a b4),w64 (plL l4 a b4)] [] false]):=by
 rw[DC_loop',DC_of l_field_Elem_Mul_0.eq_1]
 simp[F_wide_plus,splice, -AV.cells, -isVal, -binIK,bK_add,bK_sub,bK_lss,bK_geq,bK_eql, -UInt64.add_zero]
 rw[DC_keep_of l_field_Elem_Mul_0.eq_1]
 simp[in0_1,splice, -AV.cells, -isVal, -binIK,bK_add,bK_sub,bK_lss,bK_geq,bK_eql, -UInt64.add_zero]
theorem in1_5:DC lib nk (.loop l_field_Elem_Mul_0) ⟨[(3,.ptr (S.length+1) 0),(4,.ptr (S.length+2) 0),(5,.ptr (S.length+3) 0),(6,.int .i64 1),(7,w64 a),(20,X),(21,.int .i64 1),(26,.agg [w64 b0,w64 b1,w64 b2,w64 b3,w64 b4]),(27,.int .i64 5)],[],S.length⟩ (S++[x0,x1,x2,.mem [w64 (plH h0 l0 a (19*b4)),w64 (plL l0 a (19*b4)),w64 (plH h1 l1 a b0),w64 (plL l1 a b0),w64 (plH h2 l2 a b1),w64 (plL l2 a b1),w64 (plH h3 l3 a b2),w64 (plL l3 a b2),w64 (plH h4 l4 a b3),w64 (plL l4 a b3)] [] false])=some (.exit 2,⟨[(3,.ptr (S.length+1) 0),(4,.ptr (S.length+2) 0),(5,.ptr (S.length+3) 0),(20,X),(21,.int .i64 1)],[],S.length⟩,S++[x0,x1,x2,.mem [w64 (plH h0 l0 a (19*b4)),w64 (plL l0 a (19*b4)),w64 (plH h1 l1 a b0),w64 (plL l1 a b0),w64 (plH h2 l2 a b1),w64 (plL l2 a b1),w64 (plH h3 l3 a b2),w64 (plL l3 a b2),w64 (plH h4 l4 a b3),w64 (plL l4 a b3)] [] false]):=by
 rw[DC_loop',DC_of l_field_Elem_Mul_0.eq_1]
 simp[splice, -AV.cells, -isVal, -binIK,bK_add,bK_sub,bK_lss,bK_geq,bK_eql, -UInt64.add_zero]
theorem in1_4:DC lib nk (.loop l_field_Elem_Mul_0) ⟨[(3,.ptr (S.length+1) 0),(4,.ptr (S.length+2) 0),(5,.ptr (S.length+3) 0),(6,.int .i64 1),(7,w64 a),(20,X),(21,.int .i64 1),(26,.agg [w64 b0,w64 b1,w64 b2,w64 b3,w64 b4]),(27,.int .i64 4)],[],S.length⟩ (S++[x0,x1,x2,.mem [w64 h0,w64 l0,w64 (plH h1 l1 a b0),w64 (plL l1 a b0),w64 (plH h2 l2 a b1),w64 (plL l2 a b1),w64 (plH h3 l3 a b2),w64 (plL l3 a b2),w64 (plH h4 l4 a b3),w64 (plL l4 a b3)] [] false])=some (.exit 2,⟨[(3,.ptr (S.length+1) 0),(4,.ptr (S.length+2) 0),(5,.ptr (S.length+3) 0),(20,X),(21,.int .i64 1)],[],S.length⟩,S++[x0,x1,x2,.mem [w64 (plH h0 l0 a (19*b4)),w64 (plL l0 a (19*b4)),w64 (plH h1 l1 a b0),w64 (plL l1 a b0),w64 (plH h2 l2 a b1),w64 (plL l2 a b1),w64 (plH h3 l3 a b2),w64 (plL l3 a b2),w64 (plH h4 l4 a b3),w64 (plL l4 a b3)] [] false]):=by
 rw[DC_loop',DC_of l_field_Elem_Mul_0.eq_1]
 simp[F_wide_plus,splice, -AV.cells, -isVal, -binIK,bK_add,bK_sub,bK_lss,bK_geq,bK_eql, -UInt64.add_zero]
 rw[DC_keep_of l_field_Elem_Mul_0.eq_1]
 simp[in1_5,splice, -AV.cells, -isVal, -binIK,bK_add,bK_sub,bK_lss,bK_geq,bK_eql, -UInt64.add_zero]
theorem in1_3:DC lib nk (.loop l_field_Elem_Mul_0) ⟨[(3,.ptr (S.length+1) 0),(4,.ptr (S.length+2) 0),(5,.ptr (S.length+3) 0),(6,.int .i64 1),(7,w64 a),(20,X),(21,.int .i64 1),(26,.agg [w64 b0,w64 b1,w64 b2,w64 b3,w64 b4]),(27,.int .i64 3)],[],S.length⟩ (S++[x0,x1,x2,.mem [w64 h0,w64 l0,w64 (plH h1 l1 a b0),w64 (plL l1 a b0),w64 (plH h2 l2 a b1),w64 (plL l2 a b1),w64 (plH h3 l3 a b2),w64 (plL l3 a b2),w64 h4,w64 l4] [] false])=some (.exit 2,⟨[(3,.ptr (S.length+1) 0),(4,.ptr (S.length+2) 0),(5,.ptr (S.length+3) 0),(20,X),(21,.int .i64 1)],[],S.length⟩,S++[x0,x1,x2,.mem [w64 (plH h0 l0 a (19*b4)),w64 (plL l0 a (19*b4)),w64 (plH h1 l1 a b0),w64 (plL l1 a b0),w64 (plH h2 l2 a b1),w64 (plL l2 a b1),w64 (plH h3 l3 a b2),w64 (plL l3 a b2),w64 (plH h4 l4 a b3),w64 (plL l4 a b3)] [] false]):=by
 rw[DC_loop',DC_of l_field_Elem_Mul_0.eq_1]
 simp[F_wide_plus,splice, -AV.cells, -isVal, -binIK,bK_add,bK_sub,bK_lss,bK_geq,bK_eql, -UInt64.add_zero]
 rw[DC_keep_of l_field_Elem_Mul_0.eq_1]
 simp[in1_4,splice, -AV.cells, -isVal, -binIK,bK_add,bK_sub,bK_lss,bK_geq,bK_eql, -UInt64.add_zero]
theorem in1_2:DC lib nk (.loop l_field_Elem_Mul_0) ⟨[(3,.ptr (S.length+1) 0),(4,.ptr (S.length+2) 0),(5,.ptr (S.length+3) 0),(6,.int .i64 1),(7,w64 a),(20,X),(21,.int .i64 1),(26,.agg [w64 b0,w64 b1,w64 b2,w64 b3,w64 b4]),(27,.int .i64 2)],[],S.length⟩ (S++[x0,x1,x2,.mem [w64 h0,w64 l0,w64 (plH h1 l1 a b0),w64 (plL l1 a b0),w64 (plH h2 l2 a b1),w64 (plL l2 a b1),w64 h3,w64 l3,w64 h4,w64 l4] [] false])=some (.exit 2,⟨[(3,.ptr (S.length+1) 0),(4,.ptr (S.length+2) 0),(5,.ptr (S.length+3) 0),(20,X),(21,.int .i64 1)],[],S.length⟩,S++[x0,x1,x2,.mem [w64 (plH h0 l0 a (19*b4)),w64 (plL l0 a (19*b4)),w64 (plH h1 l1 a b0),w64 (plL l1 a b0),w64 (plH h2 l2 a b1),w64 (plL l2 a b1),w64 (plH h3 l3 a b2),w64 (plL l3 a b2),w64 (plH h4 l4 a b3),w64 (plL l4 a b3)] [] false]):=by
 rw[DC_loop',DC_of l_field_Elem_Mul_0.eq_1]
 simp[F_wide_plus,splice, -AV.cells, -isVal, -binIK,bK_add,bK_sub,bK_lss,bK_geq,bK_eql, -UInt64.add_zero]
 rw[DC_keep_of l_field_Elem_Mul_0.eq_1]
 simp[in1_3,splice, -AV.cells, -isVal, -binIK,bK_add,bK_sub,bK_lss,bK_geq,bK_eql, -UInt64.add_zero]
theorem in1_1:DC lib nk (.loop l_field_Elem_Mul_0) ⟨[(3,.ptr (S.length+1) 0),(4,.ptr (S.length+2) 0),(5,.ptr (S.length+3) 0),(6,.int .i64 1),(7,w64 a),(20,X),(21,.int .i64 1),(26,.agg [w64 b0,w64 b1,w64 b2,w64 b3,w64 b4]),(27,.int .i64 1)],[],S.length⟩ (S++[x0,x1,x2,.mem [w64 h0,w64 l0,w64 (plH h1 l1 a b0),w64 (plL l1 a b0),w64 h2,w64 l2,w64 h3,w64 l3,w64 h4,w64 l4] [] false])=some (.exit 2,⟨[(3,.ptr (S.length+1) 0),(4,.ptr (S.length+2) 0),(5,.ptr (S.length+3) 0),(20,X),(21,.int .i64 1)],[],S.length⟩,S++[x0,x1,x2,.mem [w64 (plH h0 l0 a (19*b4)),w64 (plL l0 a (19*b4)),w64 (plH h1 l1 a b0),w64 (plL l1 a b0),w64 (plH h2 l2 a b1),w64 (plL l2 a b1),w64 (plH h3 l3 a b2),w64 (plL l3 a b2),w64 (plH h4 l4 a b3),w64 (plL l4 a b3)] [] false]):=by
 rw[DC_loop',DC_of l_field_Elem_Mul_0.eq_1]
 simp[F_wide_plus,splice, -AV.cells, -isVal, -binIK,bK_add,bK_sub,bK_lss,bK_geq,bK_eql, -UInt64.add_zero]
 rw[DC_keep_of l_field_Elem_Mul_0.eq_1]
 simp[in1_2,splice, -AV.cells, -isVal, -binIK,bK_add,bK_sub,bK_lss,bK_geq,bK_eql, -UInt64.add_zero]
theorem in1_0:DC lib nk (.loop l_field_Elem_Mul_0) ⟨[(3,.ptr (S.length+1) 0),(4,.ptr (S.length+2) 0),(5,.ptr (S.length+3) 0),(6,.int .i64 1),(7,w64 a),(20,X),(21,.int .i64 1),(26,.agg [w64 b0,w64 b1,w64 b2,w64 b3,w64 b4]),(27,.int .i64 0)],[],S.length⟩ (S++[x0,x1,x2,.mem [w64 h0,w64 l0,w64 h1,w64 l1,w64 h2,w64 l2,w64 h3,w64 l3,w64 h4,w64 l4] [] false])=some (.exit 2,⟨[(3,.ptr (S.length+1) 0),(4,.ptr (S.length+2) 0),(5,.ptr (S.length+3) 0),(20,X),(21,.int .i64 1)],[],S.length⟩,S++[x0,x1,x2,.mem [w64 (plH h0 l0 a (19*b4)),w64 (plL l0 a (19*b4)),w64 (plH h1 l1 a b0),w64 (plL l1 a b0),w64 (plH h2 l2 a b1),w64 (plL l2 a b1),w64 (plH h3 l3 a b2),w64 (plL l3 a b2),w64 (plH h4 l4 a b3),w64 (plL l4 a b3)] [] false]):=by
 rw[DC_loop',DC_of l_field_Elem_Mul_0.eq_1]
 simp[F_wide_plus,splice, -AV.cells, -isVal, -binIK,bK_add,bK_sub,bK_lss,bK_geq,bK_eql, -UInt64.add_zero]
 rw[DC_keep_of l_field_Elem_Mul_0.eq_1]
 simp[in1_1,splice, -AV.cells, -isVal, -binIK,bK_add,bK_sub,bK_lss,bK_geq,bK_eql, -UInt64.add_zero]
theorem in2_5:DC lib nk (.loop l_field_Elem_Mul_0) ⟨[(3,.ptr (S.length+1) 0),(4,.ptr (S.length+2) 0),(5,.ptr (S.length+3) 0),(6,.int .i64 2),(7,w64 a),(20,X),(21,.int .i64 2),(26,.agg [w64 b0,w64 b1,w64 b2,w64 b3,w64 b4]),(27,.int .i64 5)],[],S.length⟩ (S++[x0,x1,x2,.mem [w64 (plH h0 l0 a (19*b3)),w64 (plL l0 a (19*b3)),w64 (plH h1 l1 a (19*b4)),w64 (plL l1 a (19*b4)),w64 (plH h2 l2 a b0),w64 (plL l2 a b0),w64 (plH h3 l3 a b1),w64 (plL l3 a b1),w64 (plH h4 l4 a b2),w64 (plL l4 a b2)] [] false])=some (.exit 2,⟨[(3,.ptr (S.length+1) 0),(4,.ptr (S.length+2) 0),(5,.ptr (S.length+3) 0),(20,X),(21,.int .i64 2)],[],S.length⟩,S++[x0,x1,x2,.mem [w64 (plH h0 l0 a (19*b3)),w64 (plL l0 a (19*b3)),w64 (plH h1 l1 a (19*b4)),w64 (plL l1 a (19*b4)),w64 (plH h2 l2 a b0),w64 (plL l2 a b0),w64 (plH h3 l3 a b1),w64 (plL l3 a b1),w64 (plH h4 l4 a b2),w64 (plL l4 a b2)] [] false]):=by
 rw[DC_loop',DC_of l_field_Elem_Mul_0.eq_1]
 simp[splice, -AV.cells, -isVal, -binIK,bK_add,bK_sub,bK_lss,bK_geq,bK_eql, -UInt64.add_zero]
theorem in2_4:DC lib nk (.loop l_field_Elem_Mul_0) ⟨[(3,.ptr (S.length+1) 0),(4,.ptr (S.length+2) 0),(5,.ptr (S.length+3) 0),(6,.int .i64 2),(7,w64 a),(20,X),(21,.int .i64 2),(26,.agg [w64 b0,w64 b1,w64 b2,w64 b3,w64 b4]),(27,.int .i64 4)],[],S.length⟩ (S++[x0,x1,x2,.mem [w64 (plH h0 l0 a (19*b3)),w64 (plL l0 a (19*b3)),w64 h1,w64 l1,w64 (plH h2 l2 a b0),w64 (plL l2 a b0),w64 (plH h3 l3 a b1),w64 (plL l3 a b1),w64 (plH h4 l4 a b2),w64 (plL l4 a b2)] [] false])=some (.exit 2,⟨[(3,.ptr (S.length+1) 0),(4,.ptr (S.length+2) 0),(5,.ptr (S.length+3) 0),(20,X),(21,.int .i64 2)],[],S.length⟩,S++[x0,x1,x2,.mem [w64 (plH h0 l0 a (19*b3)),w64 (plL l0 a (19*b3)),w64 (plH h1 l1 a (19*b4)),w64 (plL l1 a (19*b4)),w64 (plH h2 l2 a b0),w64 (plL l2 a b0),w64 (plH h3 l3 a b1),w64 (plL l3 a b1),w64 (plH h4 l4 a b2),w64 (plL l4 a b2)] [] false]):=by
 rw[DC_loop',DC_of l_field_Elem_Mul_0.eq_1]
 simp[F_wide_plus,splice, -AV.cells, -isVal, -binIK,bK_add,bK_sub,bK_lss,bK_geq,bK_eql, -UInt64.add_zero]
 rw[DC_keep_of l_field_Elem_Mul_0.eq_1]
 simp[in2_5,splice, -AV.cells, -isVal, -binIK,bK_add,bK_sub,bK_lss,bK_geq,bK_eql, -UInt64.add_zero]
theorem in2_3:DC lib nk (.loop l_field_Elem_Mul_0) ⟨[(3,.ptr (S.length+1) 0),(4,.ptr (S.length+2) 0),(5,.ptr (S.length+3) 0),(6,.int .i64 2),(7,w64 a),(20,X),(21,.int .i64 2),(26,.agg [w64 b0,w64 b1,w64 b2,w64 b3,w64 b4]),(27,.int .i64 3)],[],S.length⟩ (S++[x0,x1,x2,.mem [w64 h0,w64 l0,w64 h1,w64 l1,w64 (plH h2 l2 a b0),w64 (plL l2 a b0),w64 (plH h3 l3 a b1),w64 (plL l3 a b1),w64 (plH h4 l4 a b2),w64 (plL l4 a b2)] [] false])=some (.exit 2,⟨[(3,.ptr (S.length+1) 0),(4,.ptr (S.length+2) 0),(5,.ptr (S.length+3) 0),(20,X),(21,.int .i64 2)],[],S.length⟩,S++[x0,x1,x2,.mem [w64 (plH h0 l0 a (19*b3)),w64 (plL l0 a (19*b3)),w64 (plH h1 l1 a (19*b4)),w64 (plL l1 a (19*b4)),w64 (plH h2 l2 a b0),w64 (plL l2 a b0),w64 (plH h3 l3 a b1),w64 (plL l3 a b1),w64 (plH h4 l4 a b2),w64 (plL l4 a b2)] [] false]):=by
 rw[DC_loop',DC_of l_field_Elem_Mul_0.eq_1]
 simp[F_wide_plus,splice, -AV.cells, -isVal, -binIK,bK_add,bK_sub,bK_lss,bK_geq,bK_eql, -UInt64.add_zero]
 rw[DC_keep_of l_field_Elem_Mul_0.eq_1]
 simp[in2_4,splice, -AV.cells, -isVal, -binIK,bK_add,bK_sub,bK_lss,bK_geq,bK_eql, -UInt64.add_zero]
theorem in2_2:DC lib nk (.loop l_field_Elem_Mul_0) ⟨[(3,.ptr (S.length+1) 0),(4,.ptr (S.length+2) 0),(5,.ptr (S.length+3) 0),(6,.int .i64 2),(7,w64 a),(20,X),(21,.int .i64 2),(26,.agg [w64 b0,w64 b1,w64 b2,w64 b3,w64 b4]),(27,.int .i64 2)],[],S.length⟩ (S++[x0,x1,x2,.mem [w64 h0,w64 l0,w64 h1,w64 l1,w64 (plH h2 l2 a b0),w64 (plL l2 a b0),w64 (plH h3 l3 a b1),w64 (plL l3 a b1),w64 h4,w64 l4] [] false])=some (.exit 2,⟨[(3,.ptr (S.length+1) 0),(4,.ptr (S.length+2) 0),(5,.ptr (S.length+3) 0),(20,X),(21,.int .i64 2)],[],S.length⟩,S++[x0,x1,x2,.mem [w64 (plH h0 l0 a (19*b3)),w64 (plL l0 a (19*b3)),w64 (plH h1 l1 a (19*b4)),w64 (plL l1 a (19*b4)),w64 (plH h2 l2 a b0),w64 (plL l2 a b0),w64 (plH h3 l3 a b1),w64 (plL l3 a b1),w64 (plH h4 l4 a b2),w64 (plL l4 a b2)] [] false]):=by
 rw[DC_loop',DC_of l_field_Elem_Mul_0.eq_1]
 simp[F_wide_plus,splice, -AV.cells, -isVal, -binIK,bK_add,bK_sub,bK_lss,bK_geq,bK_eql, -UInt64.add_zero]
 rw[DC_keep_of l_field_Elem_Mul_0.eq_1]
 simp[in2_3,splice, -AV.cells, -isVal, -binIK,bK_add,bK_sub,bK_lss,bK_geq,bK_eql, -UInt64.add_zero]
theorem in2_1:DC lib nk (.loop l_field_Elem_Mul_0) ⟨[(3,.ptr (S.length+1) 0),(4,.ptr (S.length+2) 0),(5,.ptr (S.length+3) 0),(6,.int .i64 2),(7,w64 a),(20,X),(21,.int .i64 2),(26,.agg [w64 b0,w64 b1,w64 b2,w64 b3,w64 b4]),(27,.int .i64 1)],[],S.length⟩ (S++[x0,x1,x2,.mem [w64 h0,w64 l0,w64 h1,w64 l1,w64 (plH h2 l2 a b0),w64 (plL l2 a b0),w64 h3,w64 l3,w64 h4,w64 l4] [] false])=some (.exit 2,⟨[(3,.ptr (S.length+1) 0),(4,.ptr (S.length+2) 0),(5,.ptr (S.length+3) 0),(20,X),(21,.int .i64 2)],[],S.length⟩,S++[x0,x1,x2,.mem [w64 (plH h0 l0 a (19*b3)),w64 (plL l0 a (19*b3)),w64 (plH h1 l1 a (19*b4)),w64 (plL l1 a (19*b4)),w64 (plH h2 l2 a b0),w64 (plL l2 a b0),w64 (plH h3 l3 a b1),w64 (plL l3 a b1),w64 (plH h4 l4 a b2),w64 (plL l4 a b2)] [] false]):=by
 rw[DC_loop',DC_of l_field_Elem_Mul_0.eq_1]
 simp[F_wide_plus,splice, -AV.cells, -isVal, -binIK,bK_add,bK_sub,bK_lss,bK_geq,bK_eql, -UInt64.add_zero]
 rw[DC_keep_of l_field_Elem_Mul_0.eq_1]
 simp[in2_2,splice, -AV.cells, -isVal, -binIK,bK_add,bK_sub,bK_lss,bK_geq,bK_eql, -UInt64.add_zero]
theorem in2_0:DC lib nk (.loop l_field_Elem_Mul_0) ⟨[(3,.ptr (S.length+1) 0),(4,.ptr (S.length+2) 0),(5,.ptr (S.length+3) 0),(6,.int .i64 2),(7,w64 a),(20,X),(21,.int .i64 2),(26,.agg [w64 b0,w64 b1,w64 b2,w64 b3,w64 b4]),(27,.int .i64 0)],[],S.length⟩ (S++[x0,x1,x2,.mem [w64 h0,w64 l0,w64 h1,w64 l1,w64 h2,w64 l2,w64 h3,w64 l3,w64 h4,w64 l4] [] false])=some (.exit 2,⟨[(3,.ptr (S.length+1) 0),(4,.ptr (S.length+2) 0),(5,.ptr (S.length+3) 0),(20,X),(21,.int .i64 2)],[],S.length⟩,S++[x0,x1,x2,.mem [w64 (plH h0 l0 a (19*b3)),w64 (plL l0 a (19*b3)),w64 (plH h1 l1 a (19*b4)),w64 (plL l1 a (19*b4)),w64 (plH h2 l2 a b0),w64 (plL l2 a b0),w64 (plH h3 l3 a b1),w64 (plL l3 a b1),w64 (plH h4 l4 a b2),w64 (plL l4 a b2)] [] false]):=by
 rw[DC_loop',DC_of l_field_Elem_Mul_0.eq_1]
 simp[F_wide_plus,splice, -AV.cells, -isVal, -binIK,bK_add,bK_sub,bK_lss,bK_geq,bK_eql, -UInt64.add_zero]
 rw[DC_keep_of l_field_Elem_Mul_0.eq_1]
 simp[in2_1,splice, -AV.cells, -isVal, -binIK,bK_add,bK_sub,bK_lss,bK_geq,bK_eql, -UInt64.add_zero]
theorem in3_5:DC lib nk (.loop l_field_Elem_Mul_0) ⟨[(3,.ptr (S.length+1) 0),(4,.ptr (S.length+2) 0),(5,.ptr (S.length+3) 0),(6,.int .i64 3),(7,w64 a),(20,X),(21,.int .i64 3),(26,.agg [w64 b0,w64 b1,w64 b2,w64 b3,w64 b4]),(27,.int .i64 5)],[],S.length⟩ (S++[x0,x1,x2,.mem [w64 (plH h0 l0 a (19*b2)),w64 (plL l0 a (19*b2)),w64 (plH h1 l1 a (19*b3)),w64 (plL l1 a (19*b3)),w64 (plH h2 l2 a (19*b4)),w64 (plL l2 a (19*b4)),w64 (plH h3 l3 a b0),w64 (plL l3 a b0),w64 (plH h4 l4 a b1),w64 (plL l4 a b1)] [] false])=some (.exit 2,⟨[(3,.ptr (S.length+1) 0),(4,.ptr (S.length+2) 0),(5,.ptr (S.length+3) 0),(20,X),(21,.int .i64 3)],[],S.length⟩,S++[x0,x1,x2,.mem [w64 (plH h0 l0 a (19*b2)),w64 (plL l0 a (19*b2)),w64 (plH h1 l1 a (19*b3)),w64 (plL l1 a (19*b3)),w64 (plH h2 l2 a (19*b4)),w64 (plL l2 a (19*b4)),w64 (plH h3 l3 a b0),w64 (plL l3 a b0),w64 (plH h4 l4 a b1),w64 (plL l4 a b1)] [] false]):=by
 rw[DC_loop',DC_of l_field_Elem_Mul_0.eq_1]
 simp[splice, -AV.cells, -isVal, -binIK,bK_add,bK_sub,bK_lss,bK_geq,bK_eql, -UInt64.add_zero]
theorem in3_4:DC lib nk (.loop l_field_Elem_Mul_0) ⟨[(3,.ptr (S.length+1) 0),(4,.ptr (S.length+2) 0),(5,.ptr (S.length+3) 0),(6,.int .i64 3),(7,w64 a),(20,X),(21,.int .i64 3),(26,.agg [w64 b0,w64 b1,w64 b2,w64 b3,w64 b4]),(27,.int .i64 4)],[],S.length⟩ (S++[x0,x1,x2,.mem [w64 (plH h0 l0 a (19*b2)),w64 (plL l0 a (19*b2)),w64 (plH h1 l1 a (19*b3)),w64 (plL l1 a (19*b3)),w64 h2,w64 l2,w64 (plH h3 l3 a b0),w64 (plL l3 a b0),w64 (plH h4 l4 a b1),w64 (plL l4 a b1)] [] false])=some (.exit 2,⟨[(3,.ptr (S.length+1) 0),(4,.ptr (S.length+2) 0),(5,.ptr (S.length+3) 0),(20,X),(21,.int .i64 3)],[],S.length⟩,S++[x0,x1,x2,.mem [w64 (plH h0 l0 a (19*b2)),w64 (plL l0 a (19*b2)),w64 (plH h1 l1 a (19*b3)),w64 (plL l1 a (19*b3)),w64 (plH h2 l2 a (19*b4)),w64 (plL l2 a (19*b4)),w64 (plH h3 l3 a b0),w64 (plL l3 a b0),w64 (plH h4 l4 a b1),w64 (plL l4 a b1)] [] false]):=by
 rw[DC_loop',DC_of l_field_Elem_Mul_0.eq_1]
 simp[F_wide_plus,splice, -AV.cells, -isVal, -binIK,bK_add,bK_sub,bK_lss,bK_geq,bK_eql, -UInt64.add_zero]
 rw[DC_keep_of l_field_Elem_Mul_0.eq_1]
 simp[in3_5,splice, -AV.cells, -isVal, -binIK,bK_add,bK_sub,bK_lss,bK_geq,bK_eql, -UInt64.add_zero]
theorem in3_3:DC lib nk (.loop l_field_Elem_Mul_0) ⟨[(3,.ptr (S.length+1) 0),(4,.ptr (S.length+2) 0),(5,.ptr (S.length+3) 0),(6,.int .i64 3),(7,w64 a),(20,X),(21,.int .i64 3),(26,.agg [w64 b0,w64 b1,w64 b2,w64 b3,w64 b4]),(27,.int .i64 3)],[],S.length⟩ (S++[x0,x1,x2,.mem [w64 (plH h0 l0 a (19*b2)),w64 (plL l0 a (19*b2)),w64 h1,w64 l1,w64 h2,w64 l2,w64 (plH h3 l3 a b0),w64 (plL l3 a b0),w64 (plH h4 l4 a b1),w64 (plL l4 a b1)] [] false])=some (.exit 2,⟨[(3,.ptr (S.length+1) 0),(4,.ptr (S.length+2) 0),(5,.ptr (S.length+3) 0),(20,X),(21,.int .i64 3)],[],S.length⟩,S++[x0,x1,x2,.mem [w64 (plH h0 l0 a (19*b2)),w64 (plL l0 a (19*b2)),w64 (plH h1 l1 a (19*b3)),w64 (plL l1 a (19*b3)),w64 (plH h2 l2 a (19*b4)),w64 (plL l2 a (19*b4)),w64 (plH h3 l3 a b0),w64 (plL l3 a b0),w64 (plH h4 l4 a b1),w64 (plL l4 a b1)] [] false]):=by
 rw[DC_loop',DC_of l_field_Elem_Mul_0.eq_1]
 simp[F_wide_plus,splice, -AV.cells, -isVal, -binIK,bK_add,bK_sub,bK_lss,bK_geq,bK_eql, -UInt64.add_zero]
 rw[DC_keep_of l_field_Elem_Mul_0.eq_1]
 simp[in3_4,splice, -AV.cells, -isVal, -binIK,bK_add,bK_sub,bK_lss,bK_geq,bK_eql, -UInt64.add_zero]
theorem in3_2:DC lib nk (.loop l_field_Elem_Mul_0) ⟨[(3,.ptr (S.length+1) 0),(4,.ptr (S.length+2) 0),(5,.ptr (S.length+3) 0),(6,.int .i64 3),(7,w64 a),(20,X),(21,.int .i64 3),(26,.agg [w64 b0,w64 b1,w64 b2,w64 b3,w64 b4]),(27,.int .i64 2)],[],S.length⟩ (S++[x0,x1,x2,.mem [w64 h0,w64 l0,w64 h1,w64 l1,w64 h2,w64 l2,w64 (plH h3 l3 a b0),w64 (plL l3 a b0),w64 (plH h4 l4 a b1),w64 (plL l4 a b1)] [] false])=some (.exit 2,⟨[(3,.ptr (S.length+1) 0),(4,.ptr (S.length+2) 0),(5,.ptr (S.length+3) 0),(20,X),(21,.int .i64 3)],[],S.length⟩,S++[x0,x1,x2,.mem [w64 (plH h0 l0 a (19*b2)),w64 (plL l0 a (19*b2)),w64 (plH h1 l1 a (19*b3)),w64 (plL l1 a (19*b3)),w64 (plH h2 l2 a (19*b4)),w64 (plL l2 a (19*b4)),w64 (plH h3 l3 a b0),w64 (plL l3 a b0),w64 (plH h4 l4 a b1),w64 (plL l4 a b1)] [] false]):=by
 rw[DC_loop',DC_of l_field_Elem_Mul_0.eq_1]
 simp[F_wide_plus,splice, -AV.cells, -isVal, -binIK,bK_add,bK_sub,bK_lss,bK_geq,bK_eql, -UInt64.add_zero]
 rw[DC_keep_of l_field_Elem_Mul_0.eq_1]
 simp[in3_3,splice, -AV.cells, -isVal, -binIK,bK_add,bK_sub,bK_lss,bK_geq,bK_eql, -UInt64.add_zero]
theorem in3_1:DC lib nk (.loop l_field_Elem_Mul_0) ⟨[(3,.ptr (S.length+1) 0),(4,.ptr (S.length+2) 0),(5,.ptr (S.length+3) 0),(6,.int .i64 3),(7,w64 a),(20,X),(21,.int .i64 3),(26,.agg [w64 b0,w64 b1,w64 b2,w64 b3,w64 b4]),(27,.int .i64 1)],[],S.length⟩ (S++[x0,x1,x2,.mem [w64 h0,w64 l0,w64 h1,w64 l1,w64 h2,w64 l2,w64 (plH h3 l3 a b0),w64 (plL l3 a b0),w64 h4,w64 l4] [] false])=some (.exit 2,⟨[(3,.ptr (S.length+1) 0),(4,.ptr (S.length+2) 0),(5,.ptr (S.length+3) 0),(20,X),(21,.int .i64 3)],[],S.length⟩,S++[x0,x1,x2,.mem [w64 (plH h0 l0 a (19*b2)),w64 (plL l0 a (19*b2)),w64 (plH h1 l1 a (19*b3)),w64 (plL l1 a (19*b3)),w64 (plH h2 l2 a (19*b4)),w64 (plL l2 a (19*b4)),w64 (plH h3 l3 a b0),w64 (plL l3 a b0),w64 (plH h4 l4 a b1),w64 (plL l4 a b1)] [] false]):=by
 rw[DC_loop',DC_of l_field_Elem_Mul_0.eq_1]
 simp[F_wide_plus,splice, -AV.cells, -isVal, -binIK,bK_add,bK_sub,bK_lss,bK_geq,bK_eql, -UInt64.add_zero]
 rw[DC_keep_of l_field_Elem_Mul_0.eq_1]
 simp[in3_2,splice, -AV.cells, -isVal, -binIK,bK_add,bK_sub,bK_lss,bK_geq,bK_eql, -UInt64.add_zero]
theorem in3_0:DC lib nk (.loop l_field_Elem_Mul_0) ⟨[(3,.ptr (S.length+1) 0),(4,.ptr (S.length+2) 0),(5,.ptr (S.length+3) 0),(6,.int .i64 3),(7,w64 a),(20,X),(21,.int .i64 3),(26,.agg [w64 b0,w64 b1,w64 b2,w64 b3,w64 b4]),(27,.int .i64 0)],[],S.length⟩ (S++[x0,x1,x2,.mem [w64 h0,w64 l0,w64 h1,w64 l1,w64 h2,w64 l2,w64 h3,w64 l3,w64 h4,w64 l4] [] false])=some (.exit 2,⟨[(3,.ptr (S.length+1) 0),(4,.ptr (S.length+2) 0),(5,.ptr (S.length+3) 0),(20,X),(21,.int .i64 3)],[],S.length⟩,S++[x0,x1,x2,.mem [w64 (plH h0 l0 a (19*b2)),w64 (plL l0 a (19*b2)),w64 (plH h1 l1 a (19*b3)),w64 (plL l1 a (19*b3)),w64 (plH h2 l2 a (19*b4)),w64 (plL l2 a (19*b4)),w64 (plH h3 l3 a b0),w64 (plL l3 a b0),w64 (plH h4 l4 a b1),w64 (plL l4 a b1)] [] false]):=by
 rw[DC_loop',DC_of l_field_Elem_Mul_0.eq_1]
 simp[F_wide_plus,splice, -AV.cells, -isVal, -binIK,bK_add,bK_sub,bK_lss,bK_geq,bK_eql, -UInt64.add_zero]
 rw[DC_keep_of l_field_Elem_Mul_0.eq_1]
 simp[in3_1,splice, -AV.cells, -isVal, -binIK,bK_add,bK_sub,bK_lss,bK_geq,bK_eql, -UInt64.add_zero]
theorem in4_5:DC lib nk (.loop l_field_Elem_Mul_0) ⟨[(3,.ptr (S.length+1) 0),(4,.ptr (S.length+2) 0),(5,.ptr (S.length+3) 0),(6,.int .i64 4),(7,w64 a),(20,X),(21,.int .i64 4),(26,.agg [w64 b0,w64 b1,w64 b2,w64 b3,w64 b4]),(27,.int .i64 5)],[],S.length⟩ (S++[x0,x1,x2,.mem [w64 (plH h0 l0 a (19*b1)),w64 (plL l0 a (19*b1)),w64 (plH h1 l1 a (19*b2)),w64 (plL l1 a (19*b2)),w64 (plH h2 l2 a (19*b3)),w64 (plL l2 a (19*b3)),w64 (plH h3 l3 a (19*b4)),w64 (plL l3 a (19*b4)),w64 (plH h4 l4 a b0),w64 (plL l4 a b0)] [] false])=some (.exit 2,⟨[(3,.ptr (S.length+1) 0),(4,.ptr (S.length+2) 0),(5,.ptr (S.length+3) 0),(20,X),(21,.int .i64 4)],[],S.length⟩,S++[x0,x1,x2,.mem [w64 (plH h0 l0 a (19*b1)),w64 (plL l0 a (19*b1)),w64 (plH h1 l1 a (19*b2)),w64 (plL l1 a (19*b2)),w64 (plH h2 l2 a (19*b3)),w64 (plL l2 a (19*b3)),w64 (plH h3 l3 a (19*b4)),w64 (plL l3 a (19*b4)),w64 (plH h4 l4 a b0),w64 (plL l4 a b0)] [] false]):=by
 rw[DC_loop',DC_of l_field_Elem_Mul_0.eq_1]
 simp[splice, -AV.cells, -isVal, -binIK,bK_add,bK_sub,bK_lss,bK_geq,bK_eql, -UInt64.add_zero]
theorem in4_4:DC lib nk (.loop l_field_Elem_Mul_0) ⟨[(3,.ptr (S.length+1) 0),(4,.ptr (S.length+2) 0),(5,.ptr (S.length+3) 0),(6,.int .i64 4),(7,w64 a),(20,X),(21,.int .i64 4),(26,.agg [w64 b0,w64 b1,w64 b2,w64 b3,w64 b4]),(27,.int .i64 4)],[],S.length⟩ (S++[x0,x1,x2,.mem [w64 (plH h0 l0 a (19*b1)),w64 (plL l0 a (19*b1)),w64 (plH h1 l1 a (19*b2)),w64 (plL l1 a (19*b2)),w64 (plH h2 l2 a (19*b3)),w64 (plL l2 a (19*b3)),w64 h3,w64 l3,w64 (plH h4 l4 a b0),w64 (plL l4 a b0)] [] false])=some (.exit 2,⟨[(3,.ptr (S.length+1) 0),(4,.ptr (S.length+2) 0),(5,.ptr (S.length+3) 0),(20,X),(21,.int .i64 4)],[],S.length⟩,S++[x0,x1,x2,.mem [w64 (plH h0 l0 a (19*b1)),w64 (plL l0 a (19*b1)),w64 (plH h1 l1 a (19*b2)),w64 (plL l1 a (19*b2)),w64 (plH h2 l2 a (19*b3)),w64 (plL l2 a (19*b3)),w64 (plH h3 l3 a (19*b4)),w64 (plL l3 a (19*b4)),w64 (plH h4 l4 a b0),w64 (plL l4 a b0)] [] false]):=by
 rw[DC_loop',DC_of l_field_Elem_Mul_0.eq_1]
 simp[F_wide_plus,splice, -AV.cells, -isVal, -binIK,bK_add,bK_sub,bK_lss,bK_geq,bK_eql, -UInt64.add_zero]
 rw[DC_keep_of l_field_Elem_Mul_0.eq_1]
 simp[in4_5,splice, -AV.cells, -isVal, -binIK,bK_add,bK_sub,bK_lss,bK_geq,bK_eql, -UInt64.add_zero]
theorem in4_3:DC lib nk (.loop l_field_Elem_Mul_0) ⟨[(3,.ptr (S.length+1) 0),(4,.ptr (S.length+2) 0),(5,.ptr (S.length+3) 0),(6,.int .i64 4),(7,w64 a),(20,X),(21,.int .i64 4),(26,.agg [w64 b0,w64 b1,w64 b2,w64 b3,w64 b4]),(27,.int .i64 3)],[],S.length⟩ (S++[x0,x1,x2,.mem [w64 (plH h0 l0 a (19*b1)),w64 (plL l0 a (19*b1)),w64 (plH h1 l1 a (19*b2)),w64 (plL l1 a (19*b2)),w64 h2,w64 l2,w64 h3,w64 l3,w64 (plH h4 l4 a b0),w64 (plL l4 a b0)] [] false])=some (.exit 2,⟨[(3,.ptr (S.length+1) 0),(4,.ptr (S.length+2) 0),(5,.ptr (S.length+3) 0),(20,X),(21,.int .i64 4)],[],S.length⟩,S++[x0,x1,x2,.mem [w64 (plH h0 l0 a (19*b1)),w64 (plL l0 a (19*b1)),w64 (plH h1 l1 a (19*b2)),w64 (plL l1 a (19*b2)),w64 (plH h2 l2 a (19*b3)),w64 (plL l2 a (19*b3)),w64 (plH h3 l3 a (19*b4)),w64 (plL l3 a (19*b4)),w64 (plH h4 l4 a b0),w64 (plL l4 a b0)] [] false]):=by
 rw[DC_loop',DC_of l_field_Elem_Mul_0.eq_1]
 simp[F_wide_plus,splice, -AV.cells, -isVal, -binIK,bK_add,bK_sub,bK_lss,bK_geq,bK_eql, -UInt64.add_zero]
 rw[DC_keep_of l_field_Elem_Mul_0.eq_1]
 simp[in4_4,splice, -AV.cells, -isVal, -binIK,bK_add,bK_sub,bK_lss,bK_geq,bK_eql, -UInt64.add_zero]
theorem in4_2:DC lib nk (.loop l_field_Elem_Mul_0) ⟨[(3,.ptr (S.length+1) 0),(4,.ptr (S.length+2) 0),(5,.ptr (S.length+3) 0),(6,.int .i64 4),(7,w64 a),(20,X),(21,.int .i64 4),(26,.agg [w64 b0,w64 b1,w64 b2,w64 b3,w64 b4]),(27,.int .i64 2)],[],S.length⟩ (S++[x0,x1,x2,.mem [w64 (plH h0 l0 a (19*b1)),w64 (plL l0 a (19*b1)),w64 h1,w64 l1,w64 h2,w64 l2,w64 h3,w64 l3,w64 (plH h4 l4 a b0),w64 (plL l4 a b0)] [] false])=some (.exit 2,⟨[(3,.ptr (S.length+1) 0),(4,.ptr (S.length+2) 0),(5,.ptr (S.length+3) 0),(20,X),(21,.int .i64 4)],[],S.length⟩,S++[x0,x1,x2,.mem [w64 (plH h0 l0 a (19*b1)),w64 (plL l0 a (19*b1)),w64 (plH h1 l1 a (19*b2)),w64 (plL l1 a (19*b2)),w64 (plH h2 l2 a (19*b3)),w64 (plL l2 a (19*b3)),w64 (plH h3 l3 a (19*b4)),w64 (plL l3 a (19*b4)),w64 (plH h4 l4 a b0),w64 (plL l4 a b0)] [] false]):=by
 rw[DC_loop',DC_of l_field_Elem_Mul_0.eq_1]
 simp[F_wide_plus,splice, -AV.cells, -isVal, -binIK,bK_add,bK_sub,bK_lss,bK_geq,bK_eql, -UInt64.add_zero]
 rw[DC_keep_of l_field_Elem_Mul_0.eq_1]
 simp[in4_3,splice, -AV.cells, -isVal, -binIK,bK_add,bK_sub,bK_lss,bK_geq,bK_eql, -UInt64.add_zero]
theorem in4_1:DC lib nk (.loop l_field_Elem_Mul_0) ⟨[(3,.ptr (S.length+1) 0),(4,.ptr (S.length+2) 0),(5,.ptr (S.length+3) 0),(6,.int .i64 4),(7,w64 a),(20,X),(21,.int .i64 4),(26,.agg [w64 b0,w64 b1,w64 b2,w64 b3,w64 b4]),(27,.int .i64 1)],[],S.length⟩ (S++[x0,x1,x2,.mem [w64 h0,w64 l0,w64 h1,w64 l1,w64 h2,w64 l2,w64 h3,w64 l3,w64 (plH h4 l4 a b0),w64 (plL l4 a b0)] [] false])=some (.exit 2,⟨[(3,.ptr (S.length+1) 0),(4,.ptr (S.length+2) 0),(5,.ptr (S.length+3) 0),(20,X),(21,.int .i64 4)],[],S.length⟩,S++[x0,x1,x2,.mem [w64 (plH h0 l0 a (19*b1)),w64 (plL l0 a (19*b1)),w64 (plH h1 l1 a (19*b2)),w64 (plL l1 a (19*b2)),w64 (plH h2 l2 a (19*b3)),w64 (plL l2 a (19*b3)),w64 (plH h3 l3 a (19*b4)),w64 (plL l3 a (19*b4)),w64 (plH h4 l4 a b0),w64 (plL l4 a b0)] [] false]):=by
 rw[DC_loop',DC_of l_field_Elem_Mul_0.eq_1]
 simp[F_wide_plus,splice, -AV.cells, -isVal, -binIK,bK_add,bK_sub,bK_lss,bK_geq,bK_eql, -UInt64.add_zero]
 rw[DC_keep_of l_field_Elem_Mul_0.eq_1]
 simp[in4_2,splice, -AV.cells, -isVal, -binIK,bK_add,bK_sub,bK_lss,bK_geq,bK_eql, -UInt64.add_zero]
theorem in4_0:DC lib nk (.loop l_field_Elem_Mul_0) ⟨[(3,.ptr (S.length+1) 0),(4,.ptr (S.length+2) 0),(5,.ptr (S.length+3) 0),(6,.int .i64 4),(7,w64 a),(20,X),(21,.int .i64 4),(26,.agg [w64 b0,w64 b1,w64 b2,w64 b3,w64 b4]),(27,.int .i64 0)],[],S.length⟩ (S++[x0,x1,x2,.mem [w64 h0,w64 l0,w64 h1,w64 l1,w64 h2,w64 l2,w64 h3,w64 l3,w64 h4,w64 l4] [] false])=some (.exit 2,⟨[(3,.ptr (S.length+1) 0),(4,.ptr (S.length+2) 0),(5,.ptr (S.length+3) 0),(20,X),(21,.int .i64 4)],[],S.length⟩,S++[x0,x1,x2,.mem [w64 (plH h0 l0 a (19*b1)),w64 (plL l0 a (19*b1)),w64 (plH h1 l1 a (19*b2)),w64 (plL l1 a (19*b2)),w64 (plH h2 l2 a (19*b3)),w64 (plL l2 a (19*b3)),w64 (plH h3 l3 a (19*b4)),w64 (plL l3 a (19*b4)),w64 (plH h4 l4 a b0),w64 (plL l4 a b0)] [] false]):=by
 rw[DC_loop',DC_of l_field_Elem_Mul_0.eq_1]
 simp[F_wide_plus,splice, -AV.cells, -isVal, -binIK,bK_add,bK_sub,bK_lss,bK_geq,bK_eql, -UInt64.add_zero]
 rw[DC_keep_of l_field_Elem_Mul_0.eq_1]
 simp[in4_1,splice, -AV.cells, -isVal, -binIK,bK_add,bK_sub,bK_lss,bK_geq,bK_eql, -UInt64.add_zero]
end
section
variable(S:St)(x0 x2:Box)(a0 a1 a2 a3 a4 b0 b1 b2 b3 b4:UInt64)
theorem out_5:DC lib nk (.loop l_field_Elem_Mul_1) ⟨[(3,.ptr (S.length+1) 0),(4,.ptr (S.length+2) 0),(5,.ptr (S.length+3) 0),(20,.agg [w64 a0,w64 a1,w64 a2,w64 a3,w64 a4]),(21,.int .i64 5)],[],S.length⟩ (S++[x0,.mem [w64 b0,w64 b1,w64 b2,w64 b3,w64 b4] [] false,x2,.mem [w64 (plH (plH (plH (plH (plH 0 0 a0 b0) (plL 0 a0 b0) a1 (19*b4)) (plL (plL 0 a0 b0) a1 (19*b4)) a2 (19*b3)) (plL (plL (plL 0 a0 b0) a1 (19*b4)) a2 (19*b3)) a3 (19*b2)) (plL (plL (plL (plL 0 a0 b0) a1 (19*b4)) a2 (19*b3)) a3 (19*b2)) a4 (19*b1)),w64 (plL (plL (plL (plL (plL 0 a0 b0) a1 (19*b4)) a2 (19*b3)) a3 (19*b2)) a4 (19*b1)),w64 (plH (plH (plH (plH (plH 0 0 a0 b1) (plL 0 a0 b1) a1 b0) (plL (plL 0 a0 b1) a1 b0) a2 (19*b4)) (plL (plL (plL 0 a0 b1) a1 b0) a2 (19*b4)) a3 (19*b3)) (plL (plL (plL (plL 0 a0 b1) a1 b0) a2 (19*b4)) a3 (19*b3)) a4 (19*b2)),w64 (plL (plL (plL (plL (plL 0 a0 b1) a1 b0) a2 (19*b4)) a3 (19*b3)) a4 (19*b2)),w64 (plH (plH (plH (plH (plH 0 0 a0 b2) (plL 0 a0 b2) a1 b1) (plL (plL 0 a0 b2) a1 b1) a2 b0) (plL (plL (plL 0 a0 b2) a1 b1) a2 b0) a3 (19*b4)) (plL (plL (plL (plL 0 a0 b2) a1 b1) a2 b0) a3 (19*b4)) a4 (19*b3)),w64 (plL (plL (plL (plL (plL 0 a0 b2) a1 b1) a2 b0) a3 (19*b4)) a4 (19*b3)),w64 (plH (plH (plH (plH (plH 0 0 a0 b3) (plL 0 a0 b3) a1 b2) (plL (plL 0 a0 b3) a1 b2) a2 b1) (plL (plL (plL 0 a0 b3) a1 b2) a2 b1) a3 b0) (plL (plL (plL (plL 0 a0 b3) a1 b2) a2 b1) a3 b0) a4 (19*b4)),w64 (plL (plL (plL (plL (plL 0 a0 b3) a1 b2) a2 b1) a3 b0) a4 (19*b4)),w64 (plH (plH (plH (plH (plH 0 0 a0 b4) (plL 0 a0 b4) a1 b3) (plL (plL 0 a0 b4) a1 b3) a2 b2) (plL (plL (plL 0 a0 b4) a1 b3) a2 b2) a3 b1) (plL (plL (plL (plL 0 a0 b4) a1 b3) a2 b2) a3 b1) a4 b0),w64 (plL (plL (plL (plL (plL 0 a0 b4) a1 b3) a2 b2) a3 b1) a4 b0)] [] false])=some (.exit 0,⟨[(4,.ptr (S.length+2) 0),(5,.ptr (S.length+3) 0)],[],S.length⟩,S++[x0,.mem [w64 b0,w64 b1,w64 b2,w64 b3,w64 b4] [] false,x2,.mem [w64 (plH (plH (plH (plH (plH 0 0 a0 b0) (plL 0 a0 b0) a1 (19*b4)) (plL (plL 0 a0 b0) a1 (19*b4)) a2 (19*b3)) (plL (plL (plL 0 a0 b0) a1 (19*b4)) a2 (19*b3)) a3 (19*b2)) (plL (plL (plL (plL 0 a0 b0) a1 (19*b4)) a2 (19*b3)) a3 (19*b2)) a4 (19*b1)),w64 (plL (plL (plL (plL (plL 0 a0 b0) a1 (19*b4)) a2 (19*b3)) a3 (19*b2)) a4 (19*b1)),w64 (plH (plH (plH (plH (plH 0 0 a0 b1) (plL 0 a0 b1) a1 b0) (plL (plL 0 a0 b1) a1 b0) a2 (19*b4)) (plL (plL (plL 0 a0 b1) a1 b0) a2 (19*b4)) a3 (19*b3)) (plL (plL (plL (plL 0 a0 b1) a1 b0) a2 (19*b4)) a3 (19*b3)) a4 (19*b2)),w64 (plL (plL (plL (plL (plL 0 a0 b1) a1 b0) a2 (19*b4)) a3 (19*b3)) a4 (19*b2)),w64 (plH (plH (plH (plH (plH 0 0 a0 b2) (plL 0 a0 b2) a1 b1) (plL (plL 0 a0 b2) a1 b1) a2 b0) (plL (plL (plL 0 a0 b2) a1 b1) a2 b0) a3 (19*b4)) (plL (plL (plL (plL 0 a0 b2) a1 b1) a2 b0) a3 (19*b4)) a4 (19*b3)),w64 (plL (plL (plL (plL (plL 0 a0 b2) a1 b1) a2 b0) a3 (19*b4)) a4 (19*b3)),w64 (plH (plH (plH (plH (plH 0 0 a0 b3) (plL 0 a0 b3) a1 b2) (plL (plL 0 a0 b3) a1 b2) a2 b1) (plL (plL (plL 0 a0 b3) a1 b2) a2 b1) a3 b0) (plL (plL (plL (plL 0 a0 b3) a1 b2) a2 b1) a3 b0) a4 (19*b4)),w64 (plL (plL (plL (plL (plL 0 a0 b3) a1 b2) a2 b1) a3 b0) a4 (19*b4)),w64 (plH (plH (plH (plH (plH 0 0 a0 b4) (plL 0 a0 b4) a1 b3) (plL (plL 0 a0 b4) a1 b3) a2 b2) (plL (plL (plL 0 a0 b4) a1 b3) a2 b2) a3 b1) (plL (plL (plL (plL 0 a0 b4) a1 b3) a2 b2) a3 b1) a4 b0),w64 (plL (plL (plL (plL (plL 0 a0 b4) a1 b3) a2 b2) a3 b1) a4 b0)] [] false]):=by
 rw[DC_loop',DC_of l_field_Elem_Mul_1.eq_1]
 simp[splice, -AV.cells, -isVal, -binIK,bK_add,bK_sub,bK_lss,bK_geq,bK_eql, -UInt64.add_zero]
theorem out_4:DC lib nk (.loop l_field_Elem_Mul_1) ⟨[(3,.ptr (S.length+1) 0),(4,.ptr (S.length+2) 0),(5,.ptr (S.length+3) 0),(20,.agg [w64 a0,w64 a1,w64 a2,w64 a3,w64 a4]),(21,.int .i64 4)],[],S.length⟩ (S++[x0,.mem [w64 b0,w64 b1,w64 b2,w64 b3,w64 b4] [] false,x2,.mem [w64 (plH (plH (plH (plH 0 0 a0 b0) (plL 0 a0 b0) a1 (19*b4)) (plL (plL 0 a0 b0) a1 (19*b4)) a2 (19*b3)) (plL (plL (plL 0 a0 b0) a1 (19*b4)) a2 (19*b3)) a3 (19*b2)),w64 (plL (plL (plL (plL 0 a0 b0) a1 (19*b4)) a2 (19*b3)) a3 (19*b2)),w64 (plH (plH (plH (plH 0 0 a0 b1) (plL 0 a0 b1) a1 b0) (plL (plL 0 a0 b1) a1 b0) a2 (19*b4)) (plL (plL (plL 0 a0 b1) a1 b0) a2 (19*b4)) a3 (19*b3)),w64 (plL (plL (plL (plL 0 a0 b1) a1 b0) a2 (19*b4)) a3 (19*b3)),w64 (plH (plH (plH (plH 0 0 a0 b2) (plL 0 a0 b2) a1 b1) (plL (plL 0 a0 b2) a1 b1) a2 b0) (plL (plL (plL 0 a0 b2) a1 b1) a2 b0) a3 (19*b4)),w64 (plL (plL (plL (plL 0 a0 b2) a1 b1) a2 b0) a3 (19*b4)),w64 (plH (plH (plH (plH 0 0 a0 b3) (plL 0 a0 b3) a1 b2) (plL (plL 0 a0 b3) a1 b2) a2 b1) (plL (plL (plL 0 a0 b3) a1 b2) a2 b1) a3 b0),w64 (plL (plL (plL (plL 0 a0 b3) a1 b2) a2 b1) a3 b0),w64 (plH (plH (plH (plH 0 0 a0 b4) (plL 0 a0 b4) a1 b3) (plL (plL 0 a0 b4) a1 b3) a2 b2) (plL (plL (plL 0 a0 b4) a1 b3) a2 b2) a3 b1),w64 (plL (plL (plL (plL 0 a0 b4) a1 b3) a2 b2) a3 b1)] [] false])=some (.exit 0,⟨[(4,.ptr (S.length+2) 0),(5,.ptr (S.length+3) 0)],[],S.length⟩,S++[x0,.mem [w64 b0,w64 b1,w64 b2,w64 b3,w64 b4] [] false,x2,.mem [w64 (plH (plH (plH (plH (plH 0 0 a0 b0) (plL 0 a0 b0) a1 (19*b4)) (plL (plL 0 a0 b0) a1 (19*b4)) a2 (19*b3)) (plL (plL (plL 0 a0 b0) a1 (19*b4)) a2 (19*b3)) a3 (19*b2)) (plL (plL (plL (plL 0 a0 b0) a1 (19*b4)) a2 (19*b3)) a3 (19*b2)) a4 (19*b1)),w64 (plL (plL (plL (plL (plL 0 a0 b0) a1 (19*b4)) a2 (19*b3)) a3 (19*b2)) a4 (19*b1)),w64 (plH (plH (plH (plH (plH 0 0 a0 b1) (plL 0 a0 b1) a1 b0) (plL (plL 0 a0 b1) a1 b0) a2 (19*b4)) (plL (plL (plL 0 a0 b1) a1 b0) a2 (19*b4)) a3 (19*b3)) (plL (plL (plL (plL 0 a0 b1) a1 b0) a2 (19*b4)) a3 (19*b3)) a4 (19*b2)),w64 (plL (plL (plL (plL (plL 0 a0 b1) a1 b0) a2 (19*b4)) a3 (19*b3)) a4 (19*b2)),w64 (plH (plH (plH (plH (plH 0 0 a0 b2) (plL 0 a0 b2) a1 b1) (plL (plL 0 a0 b2) a1 b1) a2 b0) (plL (plL (plL 0 a0 b2) a1 b1) a2 b0) a3 (19*b4)) (plL (plL (plL (plL 0 a0 b2) a1 b1) a2 b0) a3 (19*b4)) a4 (19*b3)),w64 (plL (plL (plL (plL (plL 0 a0 b2) a1 b1) a2 b0) a3 (19*b4)) a4 (19*b3)),w64 (plH (plH (plH (plH (plH 0 0 a0 b3) (plL 0 a0 b3) a1 b2) (plL (plL 0 a0 b3) a1 b2) a2 b1) (plL (plL (plL 0 a0 b3) a1 b2) a2 b1) a3 b0) (plL (plL (plL (plL 0 a0 b3) a1 b2) a2 b1) a3 b0) a4 (19*b4)),w64 (plL (plL (plL (plL (plL 0 a0 b3) a1 b2) a2 b1) a3 b0) a4 (19*b4)),w64 (plH (plH (plH (plH (plH 0 0 a0 b4) (plL 0 a0 b4) a1 b3) (plL (plL 0 a0 b4) a1 b3) a2 b2) (plL (plL (plL 0 a0 b4) a1 b3) a2 b2) a3 b1) (plL (plL (plL (plL 0 a0 b4) a1 b3) a2 b2) a3 b1) a4 b0),w64 (plL (plL (plL (plL (plL 0 a0 b4) a1 b3) a2 b2) a3 b1) a4 b0)] [] false]):=by
 rw[DC_loop',DC_of l_field_Elem_Mul_1.eq_1]
 simp[splice, -AV.cells, -isVal, -binIK,bK_add,bK_sub,bK_lss,bK_geq,bK_eql, -UInt64.add_zero]
 rw[DC_keep_of l_field_Elem_Mul_0.eq_1]
 simp[in4_0,splice, -AV.cells, -isVal, -binIK,bK_add,bK_sub,bK_lss,bK_geq,bK_eql, -UInt64.add_zero]
 rw[DC_keep_of l_field_Elem_Mul_1.eq_1]
 simp[out_5,splice, -AV.cells, -isVal, -binIK,bK_add,bK_sub,bK_lss,bK_geq,bK_eql, -UInt64.add_zero]
theorem out_3:DC lib nk (.loop l_field_Elem_Mul_1) ⟨[(3,.ptr (S.length+1) 0),(4,.ptr (S.length+2) 0),(5,.ptr (S.length+3) 0),(20,.agg [w64 a0,w64 a1,w64 a2,w64 a3,w64 a4]),(21,.int .i64 3)],[],S.length⟩ (S++[x0,.mem [w64 b0,w64 b1,w64 b2,w64 b3,w64 b4] [] false,x2,.mem [w64 (plH (plH (plH 0 0 a0 b0) (plL 0 a0 b0) a1 (19*b4)) (plL (plL 0 a0 b0) a1 (19*b4)) a2 (19*b3)),w64 (plL (plL (plL 0 a0 b0) a1 (19*b4)) a2 (19*b3)),w64 (plH (plH (plH 0 0 a0 b1) (plL 0 a0 b1) a1 b0) (plL (plL 0 a0 b1) a1 b0) a2 (19*b4)),w64 (plL (plL (plL 0 a0 b1) a1 b0) a2 (19*b4)),w64 (plH (plH (plH 0 0 a0 b2) (plL 0 a0 b2) a1 b1) (plL (plL 0 a0 b2) a1 b1) a2 b0),w64 (plL (plL (plL 0 a0 b2) a1 b1) a2 b0),w64 (plH (plH (plH 0 0 a0 b3) (plL 0 a0 b3) a1 b2) (plL (plL 0 a0 b3) a1 b2) a2 b1),w64 (plL (plL (plL 0 a0 b3) a1 b2) a2 b1),w64 (plH (plH (plH 0 0 a0 b4) (plL 0 a0 b4) a1 b3) (plL (plL 0 a0 b4) a1 b3) a2 b2),w64 (plL (plL (plL 0 a0 b4) a1 b3) a2 b2)] [] false])=some (.exit 0,⟨[(4,.ptr (S.length+2) 0),(5,.ptr (S.length+3) 0)],[],S.length⟩,S++[x0,.mem [w64 b0,w64 b1,w64 b2,w64 b3,w64 b4] [] false,x2,.mem [w64 (plH (plH (plH (plH (plH 0 0 a0 b0) (plL 0 a0 b0) a1 (19*b4)) (plL (plL 0 a0 b0) a1 (19*b4)) a2 (19*b3)) (plL (plL (plL 0 a0 b0) a1 (19*b4)) a2 (19*b3)) a3 (19*b2)) (plL (plL (plL (plL 0 a0 b0) a1 (19*b4)) a2 (19*b3)) a3 (19*b2)) a4 (19*b1)),w64 (plL (plL (plL (plL (plL 0 a0 b0) a1 (19*b4)) a2 (19*b3)) a3 (19*b2)) a4 (19*b1)),w64 (plH (plH (plH (plH (plH 0 0 a0 b1) (plL 0 a0 b1) a1 b0) (plL (plL 0 a0 b1) a1 b0) a2 (19*b4)) (plL (plL (plL 0 a0 b1) a1 b0) a2 (19*b4)) a3 (19*b3)) (plL (plL (plL (plL 0 a0 b1) a1 b0) a2 (19*b4)) a3 (19*b3)) a4 (19*b2)),w64 (plL (plL (plL (plL (plL 0 a0 b1) a1 b0) a2 (19*b4)) a3 (19*b3)) a4 (19*b2)),w64 (plH (plH (plH (plH (plH 0 0 a0 b2) (plL 0 a0 b2) a1 b1) (plL (plL 0 a0 b2) a1 b1) a2 b0) (plL (plL (plL 0 a0 b2) a1 b1) a2 b0) a3 (19*b4)) (plL (plL (plL (plL 0 a0 b2) a1 b1) a2 b0) a3 (19*b4)) a4 (19*b3)),w64 (plL (plL (plL (plL (plL 0 a0 b2) a1 b1) a2 b0) a3 (19*b4)) a4 (19*b3)),w64 (plH (plH (plH (plH (plH 0 0 a0 b3) (plL 0 a0 b3) a1 b2) (plL (plL 0 a0 b3) a1 b2) a2 b1) (plL (plL (plL 0 a0 b3) a1 b2) a2 b1) a3 b0) (plL (plL (plL (plL 0 a0 b3) a1 b2) a2 b1) a3 b0) a4 (19*b4)),w64 (plL (plL (plL (plL (plL 0 a0 b3) a1 b2) a2 b1) a3 b0) a4 (19*b4)),w64 (plH (plH (plH (plH (plH 0 0 a0 b4) (plL 0 a0 b4) a1 b3) (plL (plL 0 a0 b4) a1 b3) a2 b2) (plL (plL (plL 0 a0 b4) a1 b3) a2 b2) a3 b1) (plL (plL (plL (plL 0 a0 b4) a1 b3) a2 b2) a3 b1) a4 b0),w64 (plL (plL (plL (plL (plL 0 a0 b4) a1 b3) a2 b2) a3 b1) a4 b0)] [] false]):=by
 rw[DC_loop',DC_of l_field_Elem_Mul_1.eq_1]
 simp[splice, -AV.cells, -isVal, -binIK,bK_add,bK_sub,bK_lss,bK_geq,bK_eql, -UInt64.add_zero]
 rw[DC_keep_of l_field_Elem_Mul_0.eq_1]
 simp[in3_0,splice, -AV.cells, -isVal, -binIK,bK_add,bK_sub,bK_lss,bK_geq,bK_eql, -UInt64.add_zero]
 rw[DC_keep_of l_field_Elem_Mul_1.eq_1]
 simp[out_4,splice, -AV.cells, -isVal, -binIK,bK_add,bK_sub,bK_lss,bK_geq,bK_eql, -UInt64.add_zero]
theorem out_2:DC lib nk (.loop l_field_Elem_Mul_1) ⟨[(3,.ptr (S.length+1) 0),(4,.ptr (S.length+2) 0),(5,.ptr (S.length+3) 0),(20,.agg [w64 a0,w64 a1,w64 a2,w64 a3,w64 a4]),(21,.int .i64 2)],[],S.length⟩ (S++[x0,.mem [w64 b0,w64 b1,w64 b2,w64 b3,w64 b4] [] false,x2,.mem [w64 (plH (plH 0 0 a0 b0) (plL 0 a0 b0) a1 (19*b4)),w64 (plL (plL 0 a0 b0) a1 (19*b4)),w64 (plH (plH 0 0 a0 b1) (plL 0 a0 b1) a1 b0),w64 (plL (plL 0 a0 b1) a1 b0),w64 (plH (plH 0 0 a0 b2) (plL 0 a0 b2) a1 b1),w64 (plL (plL 0 a0 b2) a1 b1),w64 (plH (plH 0 0 a0 b3) (plL 0 a0 b3) a1 b2),w64 (plL (plL 0 a0 b3) a1 b2),w64 (plH (plH 0 0 a0 b4) (plL 0 a0 b4) a1 b3),w64 (plL (plL 0 a0 b4) a1 b3)] [] false])=some (.exit 0,⟨[(4,.ptr (S.length+2) 0),(5,.ptr (S.length+3) 0)],[],S.length⟩,S++[x0,.mem [w64 b0,w64 b1,w64 b2,w64 b3,w64 b4] [] false,x2,.mem [w64 (plH (plH (plH (plH (plH 0 0 a0 b0) (plL 0 a0 b0) a1 (19*b4)) (plL (plL 0 a0 b0) a1 (19*b4)) a2 (19*b3)) (plL (plL (plL 0 a0 b0) a1 (19*b4)) a2 (19*b3)) a3 (19*b2)) (plL (plL (plL (plL 0 a0 b0) a1 (19*b4)) a2 (19*b3)) a3 (19*b2)) a4 (19*b1)),w64 (plL (plL (plL (plL (plL 0 a0 b0) a1 (19*b4)) a2 (19*b3)) a3 (19*b2)) a4 (19*b1)),w64 (plH (plH (plH (plH (plH 0 0 a0 b1) (plL 0 a0 b1) a1 b0) (plL (plL 0 a0 b1) a1 b0) a2 (19*b4)) (plL (plL (plL 0 a0 b1) a1 b0) a2 (19*b4)) a3 (19*b3)) (plL (plL (plL (plL 0 a0 b1) a1 b0) a2 (19*b4)) a3 (19*b3)) a4 (19*b2)),w64 (plL (plL (plL (plL (plL 0 a0 b1) a1 b0) a2 (19*b4)) a3 (19*b3)) a4 (19*b2)),w64 (plH (plH (plH (plH (plH 0 0 a0 b2) (plL 0 a0 b2) a1 b1) (plL (plL 0 a0 b2) a1 b1) a2 b0) (plL (plL (plL 0 a0 b2) a1 b1) a2 b0) a3 (19*b4)) (plL (plL (plL (plL 0 a0 b2) a1 b1) a2 b0) a3 (19*b4)) a4 (19*b3)),w64 (plL (plL (plL (plL (plL 0 a0 b2) a1 b1) a2 b0) a3 (19*b4)) a4 (19*b3)),w64 (plH (plH (plH (plH (plH 0 0 a0 b3) (plL 0 a0 b3) a1 b2) (plL (plL 0 a0 b3) a1 b2) a2 b1) (plL (plL (plL 0 a0 b3) a1 b2) a2 b1) a3 b0) (plL (plL (plL (plL 0 a0 b3) a1 b2) a2 b1) a3 b0) a4 (19*b4)),w64 (plL (plL (plL (plL (plL 0 a0 b3) a1 b2) a2 b1) a3 b0) a4 (19*b4)),w64 (plH (plH (plH (plH (plH 0 0 a0 b4) (plL 0 a0 b4) a1 b3) (plL (plL 0 a0 b4) a1 b3) a2 b2) (plL (plL (plL 0 a0 b4) a1 b3) a2 b2) a3 b1) (plL (plL (plL (plL 0 a0 b4) a1 b3) a2 b2) a3 b1) a4 b0),w64 (plL (plL (plL (plL (plL 0 a0 b4) a1 b3) a2 b2) a3 b1) a4 b0)] [] false]):=by
 rw[DC_loop',DC_of l_field_Elem_Mul_1.eq_1]
 simp[splice, -AV.cells, -isVal, -binIK,bK_add,bK_sub,bK_lss,bK_geq,bK_eql, -UInt64.add_zero]
 rw[DC_keep_of l_field_Elem_Mul_0.eq_1]
 simp[in2_0,splice, -AV.cells, -isVal, -binIK,bK_add,bK_sub,bK_lss,bK_geq,bK_eql, -UInt64.add_zero]
 rw[DC_keep_of l_field_Elem_Mul_1.eq_1]
 simp[out_3,splice, -AV.cells, -isVal, -binIK,bK_add,bK_sub,bK_lss,bK_geq,bK_eql, -UInt64.add_zero]
theorem out_1:DC lib nk (.loop l_field_Elem_Mul_1) ⟨[(3,.ptr (S.length+1) 0),(4,.ptr (S.length+2) 0),(5,.ptr (S.length+3) 0),(20,.agg [w64 a0,w64 a1,w64 a2,w64 a3,w64 a4]),(21,.int .i64 1)],[],S.length⟩ (S++[x0,.mem [w64 b0,w64 b1,w64 b2,w64 b3,w64 b4] [] false,x2,.mem [w64 (plH 0 0 a0 b0),w64 (plL 0 a0 b0),w64 (plH 0 0 a0 b1),w64 (plL 0 a0 b1),w64 (plH 0 0 a0 b2),w64 (plL 0 a0 b2),w64 (plH 0 0 a0 b3),w64 (plL 0 a0 b3),w64 (plH 0 0 a0 b4),w64 (plL 0 a0 b4)] [] false])=some (.exit 0,⟨[(4,.ptr (S.length+2) 0),(5,.ptr (S.length+3) 0)],[],S.length⟩,S++[x0,.mem [w64 b0,w64 b1,w64 b2,w64 b3,w64 b4] [] false,x2,.mem [w64 (plH (plH (plH (plH (plH 0 0 a0 b0) (plL 0 a0 b0) a1 (19*b4)) (plL (plL 0 a0 b0) a1 (19*b4)) a2 (19*b3)) (plL (plL (plL 0 a0 b0) a1 (19*b4)) a2 (19*b3)) a3 (19*b2)) (plL (plL (plL (plL 0 a0 b0) a1 (19*b4)) a2 (19*b3)) a3 (19*b2)) a4 (19*b1)),w64 (plL (plL (plL (plL (plL 0 a0 b0) a1 (19*b4)) a2 (19*b3)) a3 (19*b2)) a4 (19*b1)),w64 (plH (plH (plH (plH (plH 0 0 a0 b1) (plL 0 a0 b1) a1 b0) (plL (plL 0 a0 b1) a1 b0) a2 (19*b4)) (plL (plL (plL 0 a0 b1) a1 b0) a2 (19*b4)) a3 (19*b3)) (plL (plL (plL (plL 0 a0 b1) a1 b0) a2 (19*b4)) a3 (19*b3)) a4 (19*b2)),w64 (plL (plL (plL (plL (plL 0 a0 b1) a1 b0) a2 (19*b4)) a3 (19*b3)) a4 (19*b2)),w64 (plH (plH (plH (plH (plH 0 0 a0 b2) (plL 0 a0 b2) a1 b1) (plL (plL 0 a0 b2) a1 b1) a2 b0) (plL (plL (plL 0 a0 b2) a1 b1) a2 b0) a3 (19*b4)) (plL (plL (plL (plL 0 a0 b2) a1 b1) a2 b0) a3 (19*b4)) a4 (19*b3)),w64 (plL (plL (plL (plL (plL 0 a0 b2) a1 b1) a2 b0) a3 (19*b4)) a4 (19*b3)),w64 (plH (plH (plH (plH (plH 0 0 a0 b3) (plL 0 a0 b3) a1 b2) (plL (plL 0 a0 b3) a1 b2) a2 b1) (plL (plL (plL 0 a0 b3) a1 b2) a2 b1) a3 b0) (plL (plL (plL (plL 0 a0 b3) a1 b2) a2 b1) a3 b0) a4 (19*b4)),w64 (plL (plL (plL (plL (plL 0 a0 b3) a1 b2) a2 b1) a3 b0) a4 (19*b4)),w64 (plH (plH (plH (plH (plH 0 0 a0 b4) (plL 0 a0 b4) a1 b3) (plL (plL 0 a0 b4) a1 b3) a2 b2) (plL (plL (plL 0 a0 b4) a1 b3) a2 b2) a3 b1) (plL (plL (plL (plL 0 a0 b4) a1 b3) a2 b2) a3 b1) a4 b0),w64 (plL (plL (plL (plL (plL 0 a0 b4) a1 b3) a2 b2) a3 b1) a4 b0)] [] false]):=by
 rw[DC_loop',DC_of l_field_Elem_Mul_1.eq_1]
 simp[splice, -AV.cells, -isVal, -binIK,bK_add,bK_sub,bK_lss,bK_geq,bK_eql, -UInt64.add_zero]
 rw[DC_keep_of l_field_Elem_Mul_0.eq_1]
 simp[in1_0,splice, -AV.cells, -isVal, -binIK,bK_add,bK_sub,bK_lss,bK_geq,bK_eql, -UInt64.add_zero]
 rw[DC_keep_of l_field_Elem_Mul_1.eq_1]
 simp[out_2,splice, -AV.cells, -isVal, -binIK,bK_add,bK_sub,bK_lss,bK_geq,bK_eql, -UInt64.add_zero]
theorem out_0:DC lib nk (.loop l_field_Elem_Mul_1) ⟨[(3,.ptr (S.length+1) 0),(4,.ptr (S.length+2) 0),(5,.ptr (S.length+3) 0),(20,.agg [w64 a0,w64 a1,w64 a2,w64 a3,w64 a4]),(21,.int .i64 0)],[],S.length⟩ (S++[x0,.mem [w64 b0,w64 b1,w64 b2,w64 b3,w64 b4] [] false,x2,.mem [w64 0,w64 0,w64 0,w64 0,w64 0,w64 0,w64 0,w64 0,w64 0,w64 0] [] false])=some (.exit 0,⟨[(4,.ptr (S.length+2) 0),(5,.ptr (S.length+3) 0)],[],S.length⟩,S++[x0,.mem [w64 b0,w64 b1,w64 b2,w64 b3,w64 b4] [] false,x2,.mem [w64 (plH (plH (plH (plH (plH 0 0 a0 b0) (plL 0 a0 b0) a1 (19*b4)) (plL (plL 0 a0 b0) a1 (19*b4)) a2 (19*b3)) (plL (plL (plL 0 a0 b0) a1 (19*b4)) a2 (19*b3)) a3 (19*b2)) (plL (plL (plL (plL 0 a0 b0) a1 (19*b4)) a2 (19*b3)) a3 (19*b2)) a4 (19*b1)),w64 (plL (plL (plL (plL (plL 0 a0 b0) a1 (19*b4)) a2 (19*b3)) a3 (19*b2)) a4 (19*b1)),w64 (plH (plH (plH (plH (plH 0 0 a0 b1) (plL 0 a0 b1) a1 b0) (plL (plL 0 a0 b1) a1 b0) a2 (19*b4)) (plL (plL (plL 0 a0 b1) a1 b0) a2 (19*b4)) a3 (19*b3)) (plL (plL (plL (plL 0 a0 b1) a1 b0) a2 (19*b4)) a3 (19*b3)) a4 (19*b2)),w64 (plL (plL (plL (plL (plL 0 a0 b1) a1 b0) a2 (19*b4)) a3 (19*b3)) a4 (19*b2)),w64 (plH (plH (plH (plH (plH 0 0 a0 b2) (plL 0 a0 b2) a1 b1) (plL (plL 0 a0 b2) a1 b1) a2 b0) (plL (plL (plL 0 a0 b2) a1 b1) a2 b0) a3 (19*b4)) (plL (plL (plL (plL 0 a0 b2) a1 b1) a2 b0) a3 (19*b4)) a4 (19*b3)),w64 (plL (plL (plL (plL (plL 0 a0 b2) a1 b1) a2 b0) a3 (19*b4)) a4 (19*b3)),w64 (plH (plH (plH (plH (plH 0 0 a0 b3) (plL 0 a0 b3) a1 b2) (plL (plL 0 a0 b3) a1 b2) a2 b1) (plL (plL (plL 0 a0 b3) a1 b2) a2 b1) a3 b0) (plL (plL (plL (plL 0 a0 b3) a1 b2) a2 b1) a3 b0) a4 (19*b4)),w64 (plL (plL (plL (plL (plL 0 a0 b3) a1 b2) a2 b1) a3 b0) a4 (19*b4)),w64 (plH (plH (plH (plH (plH 0 0 a0 b4) (plL 0 a0 b4) a1 b3) (plL (plL 0 a0 b4) a1 b3) a2 b2) (plL (plL (plL 0 a0 b4) a1 b3) a2 b2) a3 b1) (plL (plL (plL (plL 0 a0 b4) a1 b3) a2 b2) a3 b1) a4 b0),w64 (plL (plL (plL (plL (plL 0 a0 b4) a1 b3) a2 b2) a3 b1) a4 b0)] [] false]):=by
 rw[DC_loop',DC_of l_field_Elem_Mul_1.eq_1]
 simp[splice, -AV.cells, -isVal, -binIK,bK_add,bK_sub,bK_lss,bK_geq,bK_eql, -UInt64.add_zero]
 rw[DC_keep_of l_field_Elem_Mul_0.eq_1]
 simp[in0_0,splice, -AV.cells, -isVal, -binIK,bK_add,bK_sub,bK_lss,bK_geq,bK_eql, -UInt64.add_zero]
 rw[DC_keep_of l_field_Elem_Mul_1.eq_1]
 simp[out_1,splice, -AV.cells, -isVal, -binIK,bK_add,bK_sub,bK_lss,bK_geq,bK_eql, -UInt64.add_zero]
end
section
variable(S:St)(x0 x1 x2:Box)(h0 h1 h2 h3 h4 l0 l1 l2 l3 l4:UInt64)
theorem ch_5:DC lib nk (.loop l_field_Elem_Mul_2) ⟨[(4,.ptr (S.length+2) 0),(5,.ptr (S.length+3) 0),(10,.ptr (S.length+4) 0),(11,w64 (ovr h4 l4 (ovr h3 l3 (ovr h2 l2 (ovr h1 l1 (ovr h0 l0 0)))))),(64,.int .i64 5)],[],S.length⟩ (S++[x0,x1,x2,.mem [w64 h0,w64 l0,w64 h1,w64 l1,w64 h2,w64 l2,w64 h3,w64 l3,w64 h4,w64 l4] [] false,.mem [w64 (lmb l0 0),w64 (lmb l1 (ovr h0 l0 0)),w64 (lmb l2 (ovr h1 l1 (ovr h0 l0 0))),w64 (lmb l3 (ovr h2 l2 (ovr h1 l1 (ovr h0 l0 0)))),w64 (lmb l4 (ovr h3 l3 (ovr h2 l2 (ovr h1 l1 (ovr h0 l0 0)))))] [] false])=some (.exit 4,⟨[(4,.ptr (S.length+2) 0),(10,.ptr (S.length+4) 0),(11,w64 (ovr h4 l4 (ovr h3 l3 (ovr h2 l2 (ovr h1 l1 (ovr h0 l0 0))))))],[],S.length⟩,S++[x0,x1,x2,.mem [w64 h0,w64 l0,w64 h1,w64 l1,w64 h2,w64 l2,w64 h3,w64 l3,w64 h4,w64 l4] [] false,.mem [w64 (lmb l0 0),w64 (lmb l1 (ovr h0 l0 0)),w64 (lmb l2 (ovr h1 l1 (ovr h0 l0 0))),w64 (lmb l3 (ovr h2 l2 (ovr h1 l1 (ovr h0 l0 0)))),w64 (lmb l4 (ovr h3 l3 (ovr h2 l2 (ovr h1 l1 (ovr h0 l0 0)))))] [] false]):=by
 rw[DC_loop',DC_of l_field_Elem_Mul_2.eq_1]
 simp[splice, -AV.cells, -isVal, -binIK,bK_add,bK_sub,bK_lss,bK_geq,bK_eql, -UInt64.add_zero]
theorem ch_4:DC lib nk (.loop l_field_Elem_Mul_2) ⟨[(4,.ptr (S.length+2) 0),(5,.ptr (S.length+3) 0),(10,.ptr (S.length+4) 0),(11,w64 (ovr h3 l3 (ovr h2 l2 (ovr h1 l1 (ovr h0 l0 0))))),(64,.int .i64 4)],[],S.length⟩ (S++[x0,x1,x2,.mem [w64 h0,w64 l0,w64 h1,w64 l1,w64 h2,w64 l2,w64 h3,w64 l3,w64 h4,w64 l4] [] false,.mem [w64 (lmb l0 0),w64 (lmb l1 (ovr h0 l0 0)),w64 (lmb l2 (ovr h1 l1 (ovr h0 l0 0))),w64 (lmb l3 (ovr h2 l2 (ovr h1 l1 (ovr h0 l0 0)))),.int .u64 0] [] false])=some (.exit 4,⟨[(4,.ptr (S.length+2) 0),(10,.ptr (S.length+4) 0),(11,w64 (ovr h4 l4 (ovr h3 l3 (ovr h2 l2 (ovr h1 l1 (ovr h0 l0 0))))))],[],S.length⟩,S++[x0,x1,x2,.mem [w64 h0,w64 l0,w64 h1,w64 l1,w64 h2,w64 l2,w64 h3,w64 l3,w64 h4,w64 l4] [] false,.mem [w64 (lmb l0 0),w64 (lmb l1 (ovr h0 l0 0)),w64 (lmb l2 (ovr h1 l1 (ovr h0 l0 0))),w64 (lmb l3 (ovr h2 l2 (ovr h1 l1 (ovr h0 l0 0)))),w64 (lmb l4 (ovr h3 l3 (ovr h2 l2 (ovr h1 l1 (ovr h0 l0 0)))))] [] false]):=by
 rw[DC_loop',DC_of l_field_Elem_Mul_2.eq_1]
 simp[splice, -AV.cells, -isVal, -binIK,bK_add,bK_sub,bK_lss,bK_geq,bK_eql, -UInt64.add_zero,ovr_f,lmb_f]
 rw[DC_keep_of l_field_Elem_Mul_2.eq_1]
 simp[ch_5,splice, -AV.cells, -isVal, -binIK,bK_add,bK_sub,bK_lss,bK_geq,bK_eql, -UInt64.add_zero,ovr_f,lmb_f]
theorem ch_3:DC lib nk (.loop l_field_Elem_Mul_2) ⟨[(4,.ptr (S.length+2) 0),(5,.ptr (S.length+3) 0),(10,.ptr (S.length+4) 0),(11,w64 (ovr h2 l2 (ovr h1 l1 (ovr h0 l0 0)))),(64,.int .i64 3)],[],S.length⟩ (S++[x0,x1,x2,.mem [w64 h0,w64 l0,w64 h1,w64 l1,w64 h2,w64 l2,w64 h3,w64 l3,w64 h4,w64 l4] [] false,.mem [w64 (lmb l0 0),w64 (lmb l1 (ovr h0 l0 0)),w64 (lmb l2 (ovr h1 l1 (ovr h0 l0 0))),.int .u64 0,.int .u64 0] [] false])=some (.exit 4,⟨[(4,.ptr (S.length+2) 0),(10,.ptr (S.length+4) 0),(11,w64 (ovr h4 l4 (ovr h3 l3 (ovr h2 l2 (ovr h1 l1 (ovr h0 l0 0))))))],[],S.length⟩,S++[x0,x1,x2,.mem [w64 h0,w64 l0,w64 h1,w64 l1,w64 h2,w64 l2,w64 h3,w64 l3,w64 h4,w64 l4] [] false,.mem [w64 (lmb l0 0),w64 (lmb l1 (ovr h0 l0 0)),w64 (lmb l2 (ovr h1 l1 (ovr h0 l0 0))),w64 (lmb l3 (ovr h2 l2 (ovr h1 l1 (ovr h0 l0 0)))),w64 (lmb l4 (ovr h3 l3 (ovr h2 l2 (ovr h1 l1 (ovr h0 l0 0)))))] [] false]):=by
 rw[DC_loop',DC_of l_field_Elem_Mul_2.eq_1]
 simp[splice, -AV.cells, -isVal, -binIK,bK_add,bK_sub,bK_lss,bK_geq,bK_eql, -UInt64.add_zero,ovr_f,lmb_f]
 rw[DC_keep_of l_field_Elem_Mul_2.eq_1]
 simp[ch_4,splice, -AV.cells, -isVal, -binIK,bK_add,bK_sub,bK_lss,bK_geq,bK_eql, -UInt64.add_zero,ovr_f,lmb_f]
theorem ch_2:DC lib nk (.loop l_field_Elem_Mul_2) ⟨[(4,.ptr (S.length+2) 0),(5,.ptr (S.length+3) 0),(10,.ptr (S.length+4) 0),(11,w64 (ovr h1 l1 (ovr h0 l0 0))),(64,.int .i64 2)],[],S.length⟩ (S++[x0,x1,x2,.mem [w64 h0,w64 l0,w64 h1,w64 l1,w64 h2,w64 l2,w64 h3,w64 l3,w64 h4,w64 l4] [] false,.mem [w64 (lmb l0 0),w64 (lmb l1 (ovr h0 l0 0)),.int .u64 0,.int .u64 0,.int .u64 0] [] false])=some (.exit 4,⟨[(4,.ptr (S.length+2) 0),(10,.ptr (S.length+4) 0),(11,w64 (ovr h4 l4 (ovr h3 l3 (ovr h2 l2 (ovr h1 l1 (ovr h0 l0 0))))))],[],S.length⟩,S++[x0,x1,x2,.mem [w64 h0,w64 l0,w64 h1,w64 l1,w64 h2,w64 l2,w64 h3,w64 l3,w64 h4,w64 l4] [] false,.mem [w64 (lmb l0 0),w64 (lmb l1 (ovr h0 l0 0)),w64 (lmb l2 (ovr h1 l1 (ovr h0 l0 0))),w64 (lmb l3 (ovr h2 l2 (ovr h1 l1 (ovr h0 l0 0)))),w64 (lmb l4 (ovr h3 l3 (ovr h2 l2 (ovr h1 l1 (ovr h0 l0 0)))))] [] false]):=by
 rw[DC_loop',DC_of l_field_Elem_Mul_2.eq_1]
 simp[splice, -AV.cells, -isVal, -binIK,bK_add,bK_sub,bK_lss,bK_geq,bK_eql, -UInt64.add_zero,ovr_f,lmb_f]
 rw[DC_keep_of l_field_Elem_Mul_2.eq_1]
 simp[ch_3,splice, -AV.cells, -isVal, -binIK,bK_add,bK_sub,bK_lss,bK_geq,bK_eql, -UInt64.add_zero,ovr_f,lmb_f]
theorem ch_1:DC lib nk (.loop l_field_Elem_Mul_2) ⟨[(4,.ptr (S.length+2) 0),(5,.ptr (S.length+3) 0),(10,.ptr (S.length+4) 0),(11,w64 (ovr h0 l0 0)),(64,.int .i64 1)],[],S.length⟩ (S++[x0,x1,x2,.mem [w64 h0,w64 l0,w64 h1,w64 l1,w64 h2,w64 l2,w64 h3,w64 l3,w64 h4,w64 l4] [] false,.mem [w64 (lmb l0 0),.int .u64 0,.int .u64 0,.int .u64 0,.int .u64 0] [] false])=some (.exit 4,⟨[(4,.ptr (S.length+2) 0),(10,.ptr (S.length+4) 0),(11,w64 (ovr h4 l4 (ovr h3 l3 (ovr h2 l2 (ovr h1 l1 (ovr h0 l0 0))))))],[],S.length⟩,S++[x0,x1,x2,.mem [w64 h0,w64 l0,w64 h1,w64 l1,w64 h2,w64 l2,w64 h3,w64 l3,w64 h4,w64 l4] [] false,.mem [w64 (lmb l0 0),w64 (lmb l1 (ovr h0 l0 0)),w64 (lmb l2 (ovr h1 l1 (ovr h0 l0 0))),w64 (lmb l3 (ovr h2 l2 (ovr h1 l1 (ovr h0 l0 0)))),w64 (lmb l4 (ovr h3 l3 (ovr h2 l2 (ovr h1 l1 (ovr h0 l0 0)))))] [] false]):=by
 rw[DC_loop',DC_of l_field_Elem_Mul_2.eq_1]
 simp[splice, -AV.cells, -isVal, -binIK,bK_add,bK_sub,bK_lss,bK_geq,bK_eql, -UInt64.add_zero,ovr_f,lmb_f]
 rw[DC_keep_of l_field_Elem_Mul_2.eq_1]
 simp[ch_2,splice, -AV.cells, -isVal, -binIK,bK_add,bK_sub,bK_lss,bK_geq,bK_eql, -UInt64.add_zero,ovr_f,lmb_f]
theorem ch_0:DC lib nk (.loop l_field_Elem_Mul_2) ⟨[(4,.ptr (S.length+2) 0),(5,.ptr (S.length+3) 0),(10,.ptr (S.length+4) 0),(11,w64 0),(64,.int .i64 0)],[],S.length⟩ (S++[x0,x1,x2,.mem [w64 h0,w64 l0,w64 h1,w64 l1,w64 h2,w64 l2,w64 h3,w64 l3,w64 h4,w64 l4] [] false,.mem [.int .u64 0,.int .u64 0,.int .u64 0,.int .u64 0,.int .u64 0] [] false])=some (.exit 4,⟨[(4,.ptr (S.length+2) 0),(10,.ptr (S.length+4) 0),(11,w64 (ovr h4 l4 (ovr h3 l3 (ovr h2 l2 (ovr h1 l1 (ovr h0 l0 0))))))],[],S.length⟩,S++[x0,x1,x2,.mem [w64 h0,w64 l0,w64 h1,w64 l1,w64 h2,w64 l2,w64 h3,w64 l3,w64 h4,w64 l4] [] false,.mem [w64 (lmb l0 0),w64 (lmb l1 (ovr h0 l0 0)),w64 (lmb l2 (ovr h1 l1 (ovr h0 l0 0))),w64 (lmb l3 (ovr h2 l2 (ovr h1 l1 (ovr h0 l0 0)))),w64 (lmb l4 (ovr h3 l3 (ovr h2 l2 (ovr h1 l1 (ovr h0 l0 0)))))] [] false]):=by
 rw[DC_loop',DC_of l_field_Elem_Mul_2.eq_1]
 simp[splice, -AV.cells, -isVal, -binIK,bK_add,bK_sub,bK_lss,bK_geq,bK_eql, -UInt64.add_zero,ovr_f,lmb_f]
 rw[DC_keep_of l_field_Elem_Mul_2.eq_1]
 simp[ch_1,splice, -AV.cells, -isVal, -binIK,bK_add,bK_sub,bK_lss,bK_geq,bK_eql, -UInt64.add_zero,ovr_f,lmb_f]
end
def mulC(h0 h1 h2 h3 h4 l0 l1 l2 l3 l4:UInt64):List AV:=
 let ov:=ovr h4 l4 (ovr h3 l3 (ovr h2 l2 (ovr h1 l1 (ovr h0 l0 0))))
 let r0:=lmb (ov*19) (lmb l0 0)
 let r1:=lmb l1 (ovr h0 l0 0)+ovr (mulH ov 19) (ov*19) (lmb l0 0)
 [w64 (crA r0 (lmb l4 (ovr h3 l3 (ovr h2 l2 (ovr h1 l1 (ovr h0 l0 0)))))),w64 (crB r0 r1),w64 (crB r1 (lmb l2 (ovr h1 l1 (ovr h0 l0 0)))),w64 (crB (lmb l2 (ovr h1 l1 (ovr h0 l0 0))) (lmb l3 (ovr h2 l2 (ovr h1 l1 (ovr h0 l0 0))))),w64 (crB (lmb l3 (ovr h2 l2 (ovr h1 l1 (ovr h0 l0 0)))) (lmb l4 (ovr h3 l3 (ovr h2 l2 (ovr h1 l1 (ovr h0 l0 0))))))]
theorem F_Mul(a0 a1 a2 a3 a4 b0 b1 b2 b3 b4:UInt64)(S:St):DF lib nk 86 [.agg [w64 a0,w64 a1,w64 a2,w64 a3,w64 a4],.agg [w64 b0,w64 b1,w64 b2,w64 b3,w64 b4]] S=some (.agg (mulC (plH (plH (plH (plH (plH 0 0 a0 b0) (plL 0 a0 b0) a1 (19*b4)) (plL (plL 0 a0 b0) a1 (19*b4)) a2 (19*b3)) (plL (plL (plL 0 a0 b0) a1 (19*b4)) a2 (19*b3)) a3 (19*b2)) (plL (plL (plL (plL 0 a0 b0) a1 (19*b4)) a2 (19*b3)) a3 (19*b2)) a4 (19*b1)) (plH (plH (plH (plH (plH 0 0 a0 b1) (plL 0 a0 b1) a1 b0) (plL (plL 0 a0 b1) a1 b0) a2 (19*b4)) (plL (plL (plL 0 a0 b1) a1 b0) a2 (19*b4)) a3 (19*b3)) (plL (plL (plL (plL 0 a0 b1) a1 b0) a2 (19*b4)) a3 (19*b3)) a4 (19*b2)) (plH (plH (plH (plH (plH 0 0 a0 b2) (plL 0 a0 b2) a1 b1) (plL (plL 0 a0 b2) a1 b1) a2 b0) (plL (plL (plL 0 a0 b2) a1 b1) a2 b0) a3 (19*b4)) (plL (plL (plL (plL 0 a0 b2) a1 b1) a2 b0) a3 (19*b4)) a4 (19*b3)) (plH (plH (plH (plH (plH 0 0 a0 b3) (plL 0 a0 b3) a1 b2) (plL (plL 0 a0 b3) a1 b2) a2 b1) (plL (plL (plL 0 a0 b3) a1 b2) a2 b1) a3 b0) (plL (plL (plL (plL 0 a0 b3) a1 b2) a2 b1) a3 b0) a4 (19*b4)) (plH (plH (plH (plH (plH 0 0 a0 b4) (plL 0 a0 b4) a1 b3) (plL (plL 0 a0 b4) a1 b3) a2 b2) (plL (plL (plL 0 a0 b4) a1 b3) a2 b2) a3 b1) (plL (plL (plL (plL 0 a0 b4) a1 b3) a2 b2) a3 b1) a4 b0) (plL (plL (plL (plL (plL 0 a0 b0) a1 (19*b4)) a2 (19*b3)) a3 (19*b2)) a4 (19*b1)) (plL (plL (plL (plL (plL 0 a0 b1) a1 b0) a2 (19*b4)) a3 (19*b3)) a4 (19*b2)) (plL (plL (plL (plL (plL 0 a0 b2) a1 b1) a2 b0) a3 (19*b4)) a4 (19*b3)) (plL (plL (plL (plL (plL 0 a0 b3) a1 b2) a2 b1) a3 b0) a4 (19*b4)) (plL (plL (plL (plL (plL 0 a0 b4) a1 b3) a2 b2) a3 b1) a4 b0)),S):=by
 have o0:=fun x0 x2=>out_0 S x0 x2 a0 a1 a2 a3 a4 b0 b1 b2 b3 b4
 have m19:∀x S,DF lib nk 114 [w64 x,.int .u64 19] S=some (.tup [w64 (mulH x 19),w64 (x*19)],S):=fun x S=>F_bits_Mul64 x 19 S
 have z0:∀x0 x2:Box,DC lib nk (.loop l_field_Elem_Mul_1) ⟨[(3,.ptr (S.length+1) 0),(4,.ptr (S.length+2) 0),(5,.ptr (S.length+3) 0),(20,.agg [w64 a0,w64 a1,w64 a2,w64 a3,w64 a4]),(21,.int .i64 0)],[],S.length⟩ (S++[x0,.mem [w64 b0,w64 b1,w64 b2,w64 b3,w64 b4] [] false,x2,.mem [.int .u64 0,.int .u64 0,.int .u64 0,.int .u64 0,.int .u64 0,.int .u64 0,.int .u64 0,.int .u64 0,.int .u64 0,.int .u64 0] [] false])=_:=fun x0 x2=>o0 x0 x2
 clear o0
 generalize plH (plH (plH (plH (plH 0 0 a0 b0) (plL 0 a0 b0) a1 (19*b4)) (plL (plL 0 a0 b0) a1 (19*b4)) a2 (19*b3)) (plL (plL (plL 0 a0 b0) a1 (19*b4)) a2 (19*b3)) a3 (19*b2)) (plL (plL (plL (plL 0 a0 b0) a1 (19*b4)) a2 (19*b3)) a3 (19*b2)) a4 (19*b1)=h0 at z0⊢
 generalize plH (plH (plH (plH (plH 0 0 a0 b1) (plL 0 a0 b1) a1 b0) (plL (plL 0 a0 b1) a1 b0) a2 (19*b4)) (plL (plL (plL 0 a0 b1) a1 b0) a2 (19*b4)) a3 (19*b3)) (plL (plL (plL (plL 0 a0 b1) a1 b0) a2 (19*b4)) a3 (19*b3)) a4 (19*b2)=h1 at z0⊢
 generalize plH (plH (plH (plH (plH 0 0 a0 b2) (plL 0 a0 b2) a1 b1) (plL (plL 0 a0 b2) a1 b1) a2 b0) (plL (plL (plL 0 a0 b2) a1 b1) a2 b0) a3 (19*b4)) (plL (plL (plL (plL 0 a0 b2) a1 b1) a2 b0) a3 (19*b4)) a4 (19*b3)=h2 at z0⊢
 generalize plH (plH (plH (plH (plH 0 0 a0 b3) (plL 0 a0 b3) a1 b2) (plL (plL 0 a0 b3) a1 b2) a2 b1) (plL (plL (plL 0 a0 b3) a1 b2) a2 b1) a3 b0) (plL (plL (plL (plL 0 a0 b3) a1 b2) a2 b1) a3 b0) a4 (19*b4)=h3 at z0⊢
 generalize plH (plH (plH (plH (plH 0 0 a0 b4) (plL 0 a0 b4) a1 b3) (plL (plL 0 a0 b4) a1 b3) a2 b2) (plL (plL (plL 0 a0 b4) a1 b3) a2 b2) a3 b1) (plL (plL (plL (plL 0 a0 b4) a1 b3) a2 b2) a3 b1) a4 b0=h4 at z0⊢
 generalize plL (plL (plL (plL (plL 0 a0 b0) a1 (19*b4)) a2 (19*b3)) a3 (19*b2)) a4 (19*b1)=l0 at z0⊢
 generalize plL (plL (plL (plL (plL 0 a0 b1) a1 b0) a2 (19*b4)) a3 (19*b3)) a4 (19*b2)=l1 at z0⊢
 generalize plL (plL (plL (plL (plL 0 a0 b2) a1 b1) a2 b0) a3 (19*b4)) a4 (19*b3)=l2 at z0⊢
 generalize plL (plL (plL (plL (plL 0 a0 b3) a1 b2) a2 b1) a3 b0) a4 (19*b4)=l3 at z0⊢
 generalize plL (plL (plL (plL (plL 0 a0 b4) a1 b3) a2 b2) a3 b1) a4 b0=l4 at z0⊢
 have c0:=fun x0 x1 x2=>ch_0 S x0 x1 x2 h0 h1 h2 h3 h4 l0 l1 l2 l3 l4
 rw[show w64 0=.int .u64 0 from rfl]at c0
 rw[run_field_Elem_Mul,DC_of c_field_Elem_Mul.eq_1]
 simp[splice, -AV.cells, -isVal, -binIK,bK_add,bK_sub,bK_lss,bK_geq,bK_eql, -UInt64.add_zero]
 rw[DC_keep_of l_field_Elem_Mul_1.eq_1]
 simp[z0,splice, -AV.cells, -isVal, -binIK,bK_add,bK_sub,bK_lss,bK_geq,bK_eql, -UInt64.add_zero]
 rw[DC_keep_of l_field_Elem_Mul_2.eq_1]
 simp[c0,m19,F_carry,splice, -AV.cells, -isVal, -binIK,bK_add,bK_sub,bK_lss,bK_geq,bK_eql, -UInt64.add_zero,ovr_f,lmb_f,mulC]
end
structure Fl where
 a:UInt64
 b:UInt64
 c:UInt64
 d:UInt64
 e:UInt64
def Fl.cs(x:Fl):List AV:=[w64 x.a,w64 x.b,w64 x.c,w64 x.d,w64 x.e]
def Fl.enc(x:Fl):AV:=.agg x.cs
@[simp high]theorem fl_cells(x:Fl):x.enc.cells=x.cs:=rfl
@[simp high]theorem fl_iv(x:Fl):isVal x.enc=true:=rfl
@[simp high]theorem fl_st(x:Fl):strip x.enc=x.enc:=rfl
@[simp]theorem fl_len(x:Fl):x.cs.length=5:=rfl
theorem fl_dats(x:Fl):DatL x.cs:=fun v hv=>by
 simp only[Fl.cs,List.mem_cons,List.not_mem_nil,or_false]at hv
 rcases hv with rfl|rfl|rfl|rfl|rfl<;>exact datC_w64 _
@[simp]theorem fl_dat(x:Fl):Dat x.enc:=dat_agg (fl_dats x)
@[simp high]theorem fl_part(x:Fl):partK (.agg 5) x.cs 0=some x.enc:=rfl
@[simp high]theorem fl_spl(x:Fl)(v0 v1 v2 v3 v4:AV):splice [v0,v1,v2,v3,v4] 0 x.cs=x.cs:=rfl
@[simp high]theorem fl_spl2(x y:Fl):splice y.cs 0 x.cs=x.cs:=rfl
@[simp]theorem fl_nt(x:Fl):notTup x.enc=true:=rfl
@[simp]theorem fl_nr(x:Fl):normr x.enc=x.enc:=rfl
@[simp]theorem fl_gr(t:List (Option Nat))(x:Fl):giveRes t x.enc=(x.enc,t):=rfl
@[simp]theorem fl_pr(x:Fl):plainRes x.enc=true:=rfl
@[simp]theorem fl_ga(S:St)(x:Fl):giveArg S x.enc=some x.enc:=rfl
@[simp]theorem fl_lo(S:St)(x:Fl):lockOne S x.enc=S:=rfl
@[simp]theorem fl_ul(S S':St)(x:Fl):unlockOne S S' x.enc=S':=rfl
@[simp]theorem fl_no(x:Fl):norm x.enc=x.enc:=rfl
@[simp]theorem fl_tk(t:List (Option Nat))(x:Fl):takeRet t x.enc=(x.enc,t):=rfl
def Fl.carry(x:Fl):Fl:=⟨crA x.a x.e,crB x.a x.b,crB x.b x.c,crB x.c x.d,crB x.d x.e⟩
def Fl.add(x y:Fl):Fl:=Fl.carry ⟨x.a+y.a,x.b+y.b,x.c+y.c,x.d+y.d,x.e+y.e⟩
def Fl.sub(x y:Fl):Fl:=Fl.carry ⟨x.a+(4503599627370458 -y.a),x.b+(4503599627370494 -y.b),x.c+(4503599627370494 -y.c),x.d+(4503599627370494 -y.d),x.e+(4503599627370494 -y.e)⟩
def Fl.bring(h0 h1 h2 h3 h4 l0 l1 l2 l3 l4:UInt64):Fl:=
 let v1:=ovr h0 l0 0
 let v2:=ovr h1 l1 v1
 let v3:=ovr h2 l2 v2
 let v4:=ovr h3 l3 v3
 let ov:=ovr h4 l4 v4
 Fl.carry ⟨lmb (ov*19) (lmb l0 0),lmb l1 v1+ovr (mulH ov 19) (ov*19) (lmb l0 0),lmb l2 v2,lmb l3 v3,lmb l4 v4⟩
def pl(w:UInt64 × UInt64)(a b:UInt64):UInt64 × UInt64:=(plH w.1 w.2 a b,plL w.2 a b)
def Fl.mul(x y:Fl):Fl:=
 let w0:=pl (pl (pl (pl (pl (0,0) x.a y.a) x.b (19*y.e)) x.c (19*y.d)) x.d (19*y.c)) x.e (19*y.b)
 let w1:=pl (pl (pl (pl (pl (0,0) x.a y.b) x.b y.a) x.c (19*y.e)) x.d (19*y.d)) x.e (19*y.c)
 let w2:=pl (pl (pl (pl (pl (0,0) x.a y.c) x.b y.b) x.c y.a) x.d (19*y.e)) x.e (19*y.d)
 let w3:=pl (pl (pl (pl (pl (0,0) x.a y.d) x.b y.c) x.c y.b) x.d y.a) x.e (19*y.e)
 let w4:=pl (pl (pl (pl (pl (0,0) x.a y.e) x.b y.d) x.c y.c) x.d y.b) x.e y.a
 Fl.bring w0.1 w1.1 w2.1 w3.1 w4.1 w0.2 w1.2 w2.2 w3.2 w4.2
theorem F_mul(x y:Fl)(S:St):DF lib nk 86 [x.enc,y.enc] S=some ((x.mul y).enc,S):=F_Mul x.a x.b x.c x.d x.e y.a y.b y.c y.d y.e S
theorem F_add(x y:Fl)(S:St):DF lib nk 107 [x.enc,y.enc] S=some ((x.add y).enc,S):=F_Add x.a x.b x.c x.d x.e y.a y.b y.c y.d y.e S
theorem F_sub(x y:Fl)(S:St):DF lib nk 108 [x.enc,y.enc] S=some ((x.sub y).enc,S):=F_Sub x.a x.b x.c x.d x.e y.a y.b y.c y.d y.e S
theorem F_carr(x:Fl)(S:St):DF lib nk 115 [x.enc] S=some (x.carry.enc,S):=F_carry x.a x.b x.c x.d x.e S
def Fl.one:Fl:=⟨1,0,0,0,0⟩
def Fl.pw(bit:Nat→Bool)(x:Fl):Nat→Fl→Fl
 |0,o=>o
 |n+1,o=>Fl.pw bit x n (if bit n=true then(o.mul o).mul x else o.mul o)
def bInv(i:Nat):Bool:=decide (i<255)&&decide (i≠2)&&decide (i≠4)
def bRoot(i:Nat):Bool:=decide (i<252)&&decide (i≠1)
theorem bK_neq(a b:Int):binIK .neq (.int .i64 a) (.int .i64 b)=some (.bool (a !=b)):=rfl
theorem F_Inv1(i:Nat)(S:St):DF lib nk 111 [.int .i64 (i:Int)] S=some (.bool (bInv i),S):=by
 rw[run_field_Elem_Invert_1,DC_of c_field_Elem_Invert_1.eq_1]
 have e1:((i:Int)<255)=(i<255):=by apply propext;omega
 have e2:((i:Int) !=2)=decide (i≠2):=by by_cases h:i=2<;>simp[h];omega
 have e4:((i:Int) !=4)=decide (i≠4):=by by_cases h:i=4<;>simp[h];omega
 unfold bInv
 by_cases h1:i<255<;>by_cases h2:i=2<;>by_cases h4:i=4<;>simp[-binIK,bK_lss,bK_neq,e1,e2,e4,h1,h2,h4]
theorem F_Root1(i:Nat)(S:St):DF lib nk 142 [.int .i64 (i:Int)] S=some (.bool (bRoot i),S):=by
 rw[run_field_Root_1,DC_of c_field_Root_1.eq_1]
 have e1:((i:Int)<252)=(i<252):=by apply propext;omega
 have e2:((i:Int) !=1)=decide (i≠1):=by by_cases h:i=1<;>simp[h];omega
 unfold bRoot
 by_cases h1:i<252<;>by_cases h2:i=1<;>simp[-binIK,bK_lss,bK_neq,e1,e2,h1,h2]
theorem F_small1(S:St):DF lib nk 105 [.int .u32 1] S=some (Fl.one.enc,S):=by
 rw[run_field_Small,DC_of c_field_Small.eq_1]
 have e:IntKind.wrap .u64 1=1:=rfl
 have p:partK (.agg 5) [.int .u64 1,.int .u64 0,.int .u64 0,.int .u64 0,.int .u64 0] 0=some Fl.one.enc:=rfl
 simp[fillK,splice,e,p]
theorem L_power(x:Fl)(g:FuncId)(bit:Nat→Bool)(hg:∀(i:Nat)(S:St),DF lib nk g [.int .i64 (i:Int)] S=some (.bool (bit i),S))(hr:rawF g=false)(hp:nk.prim g=none)(S:St)(b1:Box):∀(n:Nat)(hn:n≤256)(o:Fl),
 DC lib nk (.loop l_field_Elem_power_0) ⟨[(1,.fn g [] []),(2,.ptr S.length 0),(4,.ptr (S.length+1) 0),(5,.ptr (S.length+2) 0),(6,.int .i64 ((n:Int) -1))],[],S.length⟩ (S++[.mem x.cs [] false,b1,.mem o.cs [] false])=
  some (.exit 0,⟨[(4,.ptr (S.length+1) 0),(5,.ptr (S.length+2) 0)],[],S.length⟩,S++[.mem x.cs [] false,b1,.mem (Fl.pw bit x n o).cs [] false]):=by
 intro n
 induction n with
 |zero=>
  intro _ o
  rw[DC_loop',DC_of l_field_Elem_power_0.eq_1]
  simp[Fl.pw]
 |succ n ih=>
  intro hn o
  have hw:IntKind.wrap .i64 ((n:Int) -1)=(n:Int) -1:=wrap64 (by omega)
  have e0:(((n+1:Nat):Int) -1)=(n:Int):=by omega
  have e1:¬((n:Int)<0):=by omega
  rw[e0,Fl.pw]
  have n1:=ih (by omega)
  rw[DC_loop',DC_of l_field_Elem_power_0.eq_1]
  cases hb:bit n with
  |true=>
   have h1:=n1 ((o.mul o).mul x)
   simp[-binIK, -AV.cells, -isVal,bK_geq,bK_sub,F_mul,hg,hr,hp,hb,hw]
   rw[DC_keep_of l_field_Elem_power_0.eq_1]
   simp[-binIK, -AV.cells, -isVal,bK_geq,bK_sub,hw,h1]
  |false=>
   have h1:=n1 (o.mul o)
   simp[-binIK, -AV.cells, -isVal,bK_geq,bK_sub,F_mul,hg,hr,hp,hb,hw]
   rw[DC_keep_of l_field_Elem_power_0.eq_1]
   simp[-binIK, -AV.cells, -isVal,bK_geq,bK_sub,hw,h1]
theorem F_power(x:Fl)(g:FuncId)(bit:Nat→Bool)(hg:∀(i:Nat)(S:St),DF lib nk g [.int .i64 (i:Int)] S=some (.bool (bit i),S))(hr:rawF g=false)(hp:nk.prim g=none)(S:St):
 DF lib nk 110 [x.enc,.fn g [] []] S=some ((Fl.pw bit x 256 Fl.one).enc,S):=by
 have h:=fun b1=>L_power x g bit hg hr hp S b1 256 (by omega) Fl.one
 rw[show(((256:Nat):Int) -1)=255 from rfl]at h
 rw[run_field_Elem_power,DC_of c_field_Elem_power.eq_1]
 simp[F_small1, -binIK, -AV.cells, -isVal]
 rw[DC_keep_of l_field_Elem_power_0.eq_1]
 simp[h, -binIK, -AV.cells, -isVal]
def Fl.inv(x:Fl):Fl:=Fl.pw bInv x 256 Fl.one
def Fl.rt(x:Fl):Fl:=Fl.pw bRoot x 256 Fl.one
theorem F_rt(x:Fl)(S:St):DF lib nk 110 [x.enc,.fn 142 [] []] S=some (x.rt.enc,S):=F_power x _ bRoot F_Root1 rfl rfl S
theorem F_inv(x:Fl)(S:St):DF lib nk 85 [x.enc] S=some (x.inv.enc,S):=by
 have h:=F_power x 111 bInv F_Inv1 rfl rfl
 rw[run_field_Elem_Invert,DC_of c_field_Elem_Invert.eq_1]
 simp[h,Fl.inv, -AV.cells, -isVal]
def ldS(bs:Str)(q:Nat):Nat→UInt64
 |0=>0
 |i+1=>if q+i<32 then ldS bs q i|||shl64 (UInt64.ofNat (bs.getD (q+i) 0).toNat) (8*i)else ldS bs q i
def ldB(bs:Str)(bit:Nat):UInt64:=shr64 (ldS bs (bit/8) 8) (bit %8)
theorem w64_u8(y:UInt8):AV.int .u64 (y.toNat:Int)=w64 (UInt64.ofNat y.toNat):=by
 have hy:y.toNat<256:=y.toNat_lt
 unfold w64
 rw[UInt64.toNat_ofNat',Nat.mod_eq_of_lt (by omega)]
theorem L_load(bs:Str)(hl:bs.length=32)(bit:Nat)(hb:bit≤204)(q:Nat)(hq:bit/8=q)(S:St):∀d i,i+d=8→
 DC lib nk (.loop l_field_load_0) ⟨[(1,.int .i64 (bit:Int)),(2,.ptr S.length 0),(5,w64 (ldS bs q i)),(6,.int .i64 (i:Int))],[],S.length⟩ (S++[.mem (encB bs) [] false])=
  some (.exit 0,⟨[(1,.int .i64 (bit:Int)),(5,w64 (ldS bs q 8))],[],S.length⟩,S++[.mem (encB bs) [] false]):=by
 intro d
 induction d with
 |zero=>
  intro i hi
  have e:i=8:=by omega
  subst e
  rw[DC_loop',DC_of l_field_load_0.eq_1]
  simp
 |succ d ih=>
  intro i hi
  have hi8:(i:Int)<8:=by omega
  have n1:=ih (i+1) (by omega)
  have hw:IntKind.wrap .i64 ((i:Int)+1)=((i+1:Nat):Int):=wrap_succ (by omega)
  have g:binIK .quo (.int .i64 (bit:Int)) (.int .i64 8)=some (.int .i64 (q:Int)):=by
   show(if(8:Int)=0 then none else some (AV.int .i64 (IntKind.wrap .i64 ((bit:Int).tdiv 8))))=_
   rw[if_neg (by decide),Int.tdiv_eq_ediv_of_nonneg (by omega),wrap64 (by omega),←hq]
   rfl
  have a1:IntKind.wrap .i64 ((q:Int)+(i:Int))=((q+i:Nat):Int):=by rw[wrap64 (by omega)];omega
  have lt:(((q+i:Nat):Int)<32)=(q+i<32):=by apply propext;omega
  have m1:binIK .mul (.int .i64 8) (.int .i64 (i:Int))=some (.int .i64 ((8*i:Nat):Int)):=by
   show some (AV.int .i64 (IntKind.wrap .i64 (8*(i:Int))))=_
   rw[wrap64 (by omega)];simp
  have sh:∀z,binIK .shl (w64 z) (.int .i64 ((8*i:Nat):Int))=some (w64 (shl64 z (8*i))):=fun z=>w64_shl z (8*i) (by omega) .i64
  generalize hA:((8*i:Nat):Int)=A at m1 sh
  generalize hK:((q+i:Nat):Int)=K at a1 lt
  rw[ldS]at n1
  rw[DC_loop',DC_of l_field_load_0.eq_1]
  by_cases hk:q+i<32
  ·rw[if_pos hk]at n1
   have hkb:(encB bs)[q+i]? =some (cellB (bs.getD (q+i) 0)):=by
    unfold encB
    rw[List.getElem?_map,List.getD_eq_getElem?_getD]
    have:q+i<bs.length:=by omega
    simp[this]
   have hld:loadK (S++[.mem (encB bs) [] false]) .cell (.ptr S.length (q+i))=some (cellB (bs.getD (q+i) 0)):=by
    rw[loadK_ptr (get_at0 S _),partK_cell,hkb]
   have ix:ixAK 32 1 (.ptr S.length 0) (.int .i64 K)=some (.ptr S.length (q+i)):=by
    rw[←hK]
    simp[ixAK,hk];omega
   have cv:cvIK .u64 (cellB (bs.getD (q+i) 0))=some (w64 (UInt64.ofNat (bs.getD (q+i) 0).toNat)):=by rw[←w64_u8];exact num_cv _
   generalize bs.getD (q+i) 0=y at*
   generalize ldS bs q i=n at*
   simp[-binIK, -cvIK, -ixAK,bK_lss,bK_add,hi8,g,a1,lt,hk,m1,sh,hld,ix,cv,hw]
   rw[DC_keep_of l_field_load_0.eq_1]
   simp at n1
   simp[-binIK,bK_add,bK_lss,hw,n1]
  ·rw[if_neg hk]at n1
   simp[-binIK,bK_lss,bK_add,hi8,g,a1,lt,hk,hw]
   rw[DC_keep_of l_field_load_0.eq_1]
   simp at n1
   simp[-binIK,bK_add,bK_lss,hw,n1]
theorem F_load(bs:Str)(hl:bs.length=32)(bit:Nat)(hb:bit≤204)(S:St):DF lib nk 106 [.agg (encB bs),.int .i64 (bit:Int)] S=some (w64 (ldB bs bit),S):=by
 have h:=L_load bs hl bit hb (bit/8) rfl S 8 0 (by omega)
 have g:binIK .rem (.int .i64 (bit:Int)) (.int .i64 8)=some (.int .i64 ((bit %8:Nat):Int)):=by
  show(if(8:Int)=0 then none else some (AV.int .i64 ((bit:Int).tmod 8)))=_
  rw[if_neg (by decide),Int.tmod_eq_emod_of_nonneg (by omega)]
  rfl
 have sh:∀z,binIK .shr (w64 z) (.int .i64 ((bit %8:Nat):Int))=some (w64 (shr64 z (bit %8))):=fun z=>w64_shr z (bit %8) (by omega) .i64
 generalize hA:((bit %8:Nat):Int)=A at g sh
 rw[run_field_load,DC_of c_field_load.eq_1]
 rw[show ldS bs (bit/8) 0=0 from rfl,show w64 0=.int .u64 0 from rfl]at h
 simp at h
 simp[-binIK,hl, -AV.cells, -isVal]
 rw[DC_keep_of l_field_load_0.eq_1]
 simp[-binIK,h,g,sh,ldB]
section
def Fl.of(bs:Str):Fl:=⟨ldB bs 0&&&2251799813685247,ldB bs 51&&&2251799813685247,ldB bs 102&&&2251799813685247,ldB bs 153&&&2251799813685247,ldB bs 204&&&2251799813685247⟩
theorem bK_mul(a b:Int):binIK .mul (.int .i64 a) (.int .i64 b)=some (.int .i64 (IntKind.wrap .i64 (a*b))):=rfl
@[simp]theorem wr_51:IntKind.wrap .i64 51=51:=rfl
@[simp]theorem wr_102:IntKind.wrap .i64 102=102:=rfl
@[simp]theorem wr_153:IntKind.wrap .i64 153=153:=rfl
@[simp]theorem wr_204:IntKind.wrap .i64 204=204:=rfl
section
variable(bs:Str)(hl:bs.length=32)(S:St)(b1:Box)
theorem partB(bs:Str)(hl:bs.length=32):partK (.agg 32) (encB bs) 0=some (.agg (encB bs)):=by
 have hs:∀l:Str,(encB l).map strip=encB l:=fun l=>by
  unfold encB
  rw[List.map_map]
  rfl
 simp only[partK,encB_length,hl,sub,List.drop_zero]
 rw[if_pos (by omega),List.take_of_length_le (by simp[hl]),hs]
include hl in
theorem of_5:DC lib nk (.loop l_field_Of_0) ⟨[(1,.ptr S.length 0),(2,.ptr (S.length+1) 0),(3,.ptr (S.length+2) 0),(5,.int .i64 5)],[],S.length⟩ (S++[.mem (encB bs) [] false,b1,.mem [w64 (ldB bs 0&&&2251799813685247),w64 (ldB bs 51&&&2251799813685247),w64 (ldB bs 102&&&2251799813685247),w64 (ldB bs 153&&&2251799813685247),w64 (ldB bs 204&&&2251799813685247)] [] false])=some (.exit 0,⟨[(2,.ptr (S.length+1) 0),(3,.ptr (S.length+2) 0)],[],S.length⟩,S++[.mem (encB bs) [] false,b1,.mem [w64 (ldB bs 0&&&2251799813685247),w64 (ldB bs 51&&&2251799813685247),w64 (ldB bs 102&&&2251799813685247),w64 (ldB bs 153&&&2251799813685247),w64 (ldB bs 204&&&2251799813685247)] [] false]):=by
 rw[DC_loop',DC_of l_field_Of_0.eq_1]
 simp[splice, -AV.cells, -isVal, -binIK,bK_add,bK_sub,bK_lss,bK_mul,bK_eql, -UInt64.add_zero]
include hl in
theorem of_4:DC lib nk (.loop l_field_Of_0) ⟨[(1,.ptr S.length 0),(2,.ptr (S.length+1) 0),(3,.ptr (S.length+2) 0),(5,.int .i64 4)],[],S.length⟩ (S++[.mem (encB bs) [] false,b1,.mem [w64 (ldB bs 0&&&2251799813685247),w64 (ldB bs 51&&&2251799813685247),w64 (ldB bs 102&&&2251799813685247),w64 (ldB bs 153&&&2251799813685247),.int .u64 0] [] false])=some (.exit 0,⟨[(2,.ptr (S.length+1) 0),(3,.ptr (S.length+2) 0)],[],S.length⟩,S++[.mem (encB bs) [] false,b1,.mem [w64 (ldB bs 0&&&2251799813685247),w64 (ldB bs 51&&&2251799813685247),w64 (ldB bs 102&&&2251799813685247),w64 (ldB bs 153&&&2251799813685247),w64 (ldB bs 204&&&2251799813685247)] [] false]):=by
 have f:=F_load bs hl 204 (by omega)
 have p:=partB bs hl
 have n:=of_5 bs hl S b1
 simp at f
 rw[DC_loop',DC_of l_field_Of_0.eq_1]
 simp[f,p,splice, -AV.cells, -isVal, -binIK,bK_add,bK_sub,bK_lss,bK_mul,bK_eql, -UInt64.add_zero]
 rw[DC_keep_of l_field_Of_0.eq_1]
 simp[n,splice, -AV.cells, -isVal, -binIK,bK_add,bK_sub,bK_lss,bK_mul,bK_eql, -UInt64.add_zero]
include hl in
theorem of_3:DC lib nk (.loop l_field_Of_0) ⟨[(1,.ptr S.length 0),(2,.ptr (S.length+1) 0),(3,.ptr (S.length+2) 0),(5,.int .i64 3)],[],S.length⟩ (S++[.mem (encB bs) [] false,b1,.mem [w64 (ldB bs 0&&&2251799813685247),w64 (ldB bs 51&&&2251799813685247),w64 (ldB bs 102&&&2251799813685247),.int .u64 0,.int .u64 0] [] false])=some (.exit 0,⟨[(2,.ptr (S.length+1) 0),(3,.ptr (S.length+2) 0)],[],S.length⟩,S++[.mem (encB bs) [] false,b1,.mem [w64 (ldB bs 0&&&2251799813685247),w64 (ldB bs 51&&&2251799813685247),w64 (ldB bs 102&&&2251799813685247),w64 (ldB bs 153&&&2251799813685247),w64 (ldB bs 204&&&2251799813685247)] [] false]):=by
 have f:=F_load bs hl 153 (by omega)
 have p:=partB bs hl
 have n:=of_4 bs hl S b1
 simp at f
 rw[DC_loop',DC_of l_field_Of_0.eq_1]
 simp[f,p,splice, -AV.cells, -isVal, -binIK,bK_add,bK_sub,bK_lss,bK_mul,bK_eql, -UInt64.add_zero]
 rw[DC_keep_of l_field_Of_0.eq_1]
 simp[n,splice, -AV.cells, -isVal, -binIK,bK_add,bK_sub,bK_lss,bK_mul,bK_eql, -UInt64.add_zero]
include hl in
theorem of_2:DC lib nk (.loop l_field_Of_0) ⟨[(1,.ptr S.length 0),(2,.ptr (S.length+1) 0),(3,.ptr (S.length+2) 0),(5,.int .i64 2)],[],S.length⟩ (S++[.mem (encB bs) [] false,b1,.mem [w64 (ldB bs 0&&&2251799813685247),w64 (ldB bs 51&&&2251799813685247),.int .u64 0,.int .u64 0,.int .u64 0] [] false])=some (.exit 0,⟨[(2,.ptr (S.length+1) 0),(3,.ptr (S.length+2) 0)],[],S.length⟩,S++[.mem (encB bs) [] false,b1,.mem [w64 (ldB bs 0&&&2251799813685247),w64 (ldB bs 51&&&2251799813685247),w64 (ldB bs 102&&&2251799813685247),w64 (ldB bs 153&&&2251799813685247),w64 (ldB bs 204&&&2251799813685247)] [] false]):=by
 have f:=F_load bs hl 102 (by omega)
 have p:=partB bs hl
 have n:=of_3 bs hl S b1
 simp at f
 rw[DC_loop',DC_of l_field_Of_0.eq_1]
 simp[f,p,splice, -AV.cells, -isVal, -binIK,bK_add,bK_sub,bK_lss,bK_mul,bK_eql, -UInt64.add_zero]
 rw[DC_keep_of l_field_Of_0.eq_1]
 simp[n,splice, -AV.cells, -isVal, -binIK,bK_add,bK_sub,bK_lss,bK_mul,bK_eql, -UInt64.add_zero]
include hl in
theorem of_1:DC lib nk (.loop l_field_Of_0) ⟨[(1,.ptr S.length 0),(2,.ptr (S.length+1) 0),(3,.ptr (S.length+2) 0),(5,.int .i64 1)],[],S.length⟩ (S++[.mem (encB bs) [] false,b1,.mem [w64 (ldB bs 0&&&2251799813685247),.int .u64 0,.int .u64 0,.int .u64 0,.int .u64 0] [] false])=some (.exit 0,⟨[(2,.ptr (S.length+1) 0),(3,.ptr (S.length+2) 0)],[],S.length⟩,S++[.mem (encB bs) [] false,b1,.mem [w64 (ldB bs 0&&&2251799813685247),w64 (ldB bs 51&&&2251799813685247),w64 (ldB bs 102&&&2251799813685247),w64 (ldB bs 153&&&2251799813685247),w64 (ldB bs 204&&&2251799813685247)] [] false]):=by
 have f:=F_load bs hl 51 (by omega)
 have p:=partB bs hl
 have n:=of_2 bs hl S b1
 simp at f
 rw[DC_loop',DC_of l_field_Of_0.eq_1]
 simp[f,p,splice, -AV.cells, -isVal, -binIK,bK_add,bK_sub,bK_lss,bK_mul,bK_eql, -UInt64.add_zero]
 rw[DC_keep_of l_field_Of_0.eq_1]
 simp[n,splice, -AV.cells, -isVal, -binIK,bK_add,bK_sub,bK_lss,bK_mul,bK_eql, -UInt64.add_zero]
include hl in
theorem of_0:DC lib nk (.loop l_field_Of_0) ⟨[(1,.ptr S.length 0),(2,.ptr (S.length+1) 0),(3,.ptr (S.length+2) 0),(5,.int .i64 0)],[],S.length⟩ (S++[.mem (encB bs) [] false,b1,.mem [.int .u64 0,.int .u64 0,.int .u64 0,.int .u64 0,.int .u64 0] [] false])=some (.exit 0,⟨[(2,.ptr (S.length+1) 0),(3,.ptr (S.length+2) 0)],[],S.length⟩,S++[.mem (encB bs) [] false,b1,.mem [w64 (ldB bs 0&&&2251799813685247),w64 (ldB bs 51&&&2251799813685247),w64 (ldB bs 102&&&2251799813685247),w64 (ldB bs 153&&&2251799813685247),w64 (ldB bs 204&&&2251799813685247)] [] false]):=by
 have f:=F_load bs hl 0 (by omega)
 have p:=partB bs hl
 have n:=of_1 bs hl S b1
 simp at f
 rw[DC_loop',DC_of l_field_Of_0.eq_1]
 simp[f,p,splice, -AV.cells, -isVal, -binIK,bK_add,bK_sub,bK_lss,bK_mul,bK_eql, -UInt64.add_zero]
 rw[DC_keep_of l_field_Of_0.eq_1]
 simp[n,splice, -AV.cells, -isVal, -binIK,bK_add,bK_sub,bK_lss,bK_mul,bK_eql, -UInt64.add_zero]
end
theorem F_Of(bs:Str)(hl:bs.length=32)(S:St):DF lib nk 80 [.agg (encB bs)] S=some ((Fl.of bs).enc,S):=by
 have h:=fun b1=>of_0 bs hl S b1
 have p:partK (.agg 5) [w64 (ldB bs 0&&&2251799813685247),w64 (ldB bs 51&&&2251799813685247),w64 (ldB bs 102&&&2251799813685247),w64 (ldB bs 153&&&2251799813685247),w64 (ldB bs 204&&&2251799813685247)] 0=some (Fl.of bs).enc:=rfl
 have c:splice [AV.int .u64 0,.int .u64 0,.int .u64 0,.int .u64 0,.int .u64 0] 0 (Fl.of bs).cs=(Fl.of bs).cs:=rfl
 rw[run_field_Of,DC_of c_field_Of.eq_1]
 simp[-binIK,hl, -AV.cells, -isVal]
 rw[DC_keep_of l_field_Of_0.eq_1]
 simp[h,p,c, -binIK, -AV.cells, -isVal]
 rfl
def dBytes:Str:=[0xa3,0x78,0x59,0x13,0xca,0x4d,0xeb,0x75,0xab,0xd8,0x41,0x41,0x4d,0x0a,0x70,0x00,0x98,0xe8,0x79,0x77,0x79,0x40,0xc7,0x8c,0x73,0xfe,0x6f,0x2b,0xee,0x6c,0x03,0x52]
def Fl.d1:Fl:=Fl.of dBytes
def Fl.d2:Fl:=Fl.d1.add Fl.d1
theorem F_once(S:St):DF lib nk 129 [] S=some (Fl.d1.enc,S):=by
 have h:=fun S=>F_Of dBytes rfl S
 have e:encB dBytes=[.int .u8 163,.int .u8 120,.int .u8 89,.int .u8 19,.int .u8 202,.int .u8 77,.int .u8 235,.int .u8 117,.int .u8 171,.int .u8 216,.int .u8 65,.int .u8 65,.int .u8 77,.int .u8 10,.int .u8 112,.int .u8 0,.int .u8 152,.int .u8 232,.int .u8 121,.int .u8 119,.int .u8 121,.int .u8 64,.int .u8 199,.int .u8 140,.int .u8 115,.int .u8 254,.int .u8 111,.int .u8 43,.int .u8 238,.int .u8 108,.int .u8 3,.int .u8 82]:=rfl
 rw[e]at h
 have ci:∀k n,AV.cells (.int k n)=[.int k n]:=fun _ _=>rfl
 have iv:∀k n,isVal (.int k n)=true:=fun _ _=>rfl
 rw[run_curve_once,DC_of c_curve_once.eq_1]
 simp[h,fillK,splice, -binIK,Fl.d1, -AV.cells, -isVal,ci,iv]
theorem F_factor(S:St):DF lib nk 109 [] S=some (Fl.d2.enc,S):=by
 rw[run_curve_factor,DC_of c_curve_factor.eq_1]
 simp[F_once,F_add, -binIK, -AV.cells, -isVal,Fl.d2]
end
section
structure Pt where
 x:Fl
 y:Fl
 z:Fl
 t:Fl
def Pt.cs(p:Pt):List AV:=p.x.cs++(p.y.cs++(p.z.cs++p.t.cs))
def Pt.enc(p:Pt):AV:=.agg p.cs
@[simp high]theorem pt_cells(x:Pt):x.enc.cells=x.cs:=rfl
@[simp high]theorem pt_fold(p:Pt):AV.agg p.cs=p.enc:=rfl
@[simp high]theorem pt_iv(x:Pt):isVal x.enc=true:=rfl
@[simp high]theorem pt_st(x:Pt):strip x.enc=x.enc:=rfl
@[simp]theorem pt_len(x:Pt):x.cs.length=20:=rfl
@[simp]theorem pt_dat(p:Pt):Dat p.enc:=dat_agg fun v hv=>by
  simp only[Pt.cs,List.mem_append]at hv
  rcases hv with h|h|h|h
  ·exact fl_dats p.x v h
  ·exact fl_dats p.y v h
  ·exact fl_dats p.z v h
  ·exact fl_dats p.t v h
@[simp high]theorem pt_part(p:Pt):partK (.agg 20) p.cs 0=some p.enc:=rfl
@[simp high]theorem pt_part0(p:Pt):partK (.agg 5) p.cs 0=some p.x.enc:=rfl
@[simp high]theorem pt_part5(p:Pt):partK (.agg 5) p.cs 5=some p.y.enc:=rfl
@[simp high]theorem pt_part10(p:Pt):partK (.agg 5) p.cs 10=some p.z.enc:=rfl
@[simp high]theorem pt_part15(p:Pt):partK (.agg 5) p.cs 15=some p.t.enc:=rfl
@[simp high]theorem pt_spl(x:Pt):splice kz_411e1534 0 x.cs=x.cs:=rfl
@[simp high]theorem pt_spl2(x y:Pt):splice y.cs 0 x.cs=x.cs:=rfl
@[simp]theorem pt_nt(x:Pt):notTup x.enc=true:=rfl
@[simp]theorem pt_nr(x:Pt):normr x.enc=x.enc:=rfl
@[simp]theorem pt_gr(t:List (Option Nat))(x:Pt):giveRes t x.enc=(x.enc,t):=rfl
@[simp]theorem pt_pr(x:Pt):plainRes x.enc=true:=rfl
@[simp]theorem pt_ga(S:St)(x:Pt):giveArg S x.enc=some x.enc:=rfl
@[simp]theorem pt_lo(S:St)(x:Pt):lockOne S x.enc=S:=rfl
@[simp]theorem pt_ul(S S':St)(x:Pt):unlockOne S S' x.enc=S':=rfl
@[simp]theorem pt_no(x:Pt):norm x.enc=x.enc:=rfl
@[simp]theorem pt_tk(t:List (Option Nat))(x:Pt):takeRet t x.enc=(x.enc,t):=rfl
theorem pt_bld(x y z t:Fl):fillK kz_411e1534 [(0,5,x.enc),(5,5,y.enc),(10,5,z.enc),(15,5,t.enc)]=some (Pt.cs ⟨x,y,z,t⟩):=rfl
section
variable(M A B:Fl→Fl→Fl)(D:Fl)
def Pt.dblG(p:Pt):Pt:=
 let a:=M p.x p.x
 let b:=M p.y p.y
 let c:=M p.z p.z
 let h:=A a b
 let s:=A p.x p.y
 let e:=B h (M s s)
 let g:=B a b
 let f:=A (A c c) g
 ⟨M e f,M g h,M f g,M e h⟩
def Pt.addG(p o:Pt):Pt:=
 let a:=M (B p.y p.x) (B o.y o.x)
 let b:=M (A p.y p.x) (A o.y o.x)
 let c:=M (M p.t D) o.t
 let d:=M (A p.z p.z) o.z
 let e:=B b a
 let f:=B d c
 let g:=A d c
 let h:=A b a
 ⟨M e f,M g h,M f g,M e h⟩
variable{M A B:Fl→Fl→Fl}(hM:∀x y S,DF lib nk 86 [x.enc,y.enc] S=some ((M x y).enc,S))(hA:∀x y S,DF lib nk 107 [x.enc,y.enc] S=some ((A x y).enc,S))(hB:∀x y S,DF lib nk 108 [x.enc,y.enc] S=some ((B x y).enc,S))
include hM hA hB
theorem F_dblG(p:Pt)(S:St):DF lib nk 83 [p.enc] S=some ((p.dblG M A B).enc,S):=by
 have pb:=pt_bld
 have sp:=pt_spl
 simp only[kz_411e1534]at pb sp
 rw[run_curve_Point_Double,DC_of c_curve_Point_Double.eq_1]
 simp[hM,hA,hB, -AV.cells, -isVal, -binIK,pb,sp,Pt.dblG]
end
def Pt.dbl(p:Pt):Pt:=p.dblG Fl.mul Fl.add Fl.sub
def Pt.add(p o:Pt):Pt:=p.addG Fl.mul Fl.add Fl.sub Fl.d2 o
theorem F_dbl(p:Pt)(S:St):DF lib nk 83 [p.enc] S=some (p.dbl.enc,S):=F_dblG F_mul F_add F_sub p S
end
structure N5 where
 a:Nat
 b:Nat
 c:Nat
 d:Nat
 e:Nat
def Fl.n(x:Fl):N5:=⟨x.a.toNat,x.b.toNat,x.c.toNat,x.d.toNat,x.e.toNat⟩
def N5.crr(x:N5):N5:=⟨x.a %2251799813685248+19*(x.e/2251799813685248),x.b %2251799813685248+x.a/2251799813685248,x.c %2251799813685248+x.b/2251799813685248,x.d %2251799813685248+x.c/2251799813685248,x.e %2251799813685248+x.d/2251799813685248⟩
theorem mask_nat(z:UInt64):(z&&&2251799813685247).toNat=z.toNat %2251799813685248:=by
 rw[UInt64.toNat_and]
 exact Nat.and_two_pow_sub_one_eq_mod z.toNat 51
theorem shr51(z:UInt64):(shr64 z 51).toNat=z.toNat/2251799813685248:=shr64_nat z 51
theorem crA_nat(a e:UInt64):(crA a e).toNat=a.toNat %2251799813685248+19*(e.toNat/2251799813685248):=by
 have he:=x64_lt e
 have h19:(19:UInt64).toNat=19:=rfl
 unfold crA
 rw[UInt64.toNat_add,UInt64.toNat_mul,mask_nat,shr51,h19]
 show(a.toNat %2251799813685248+19*(e.toNat/2251799813685248)%18446744073709551616)%18446744073709551616=_
 omega
theorem crB_nat(x y:UInt64):(crB x y).toNat=y.toNat %2251799813685248+x.toNat/2251799813685248:=by
 have hx:=x64_lt x
 unfold crB
 rw[UInt64.toNat_add,mask_nat,shr51]
 show(y.toNat %2251799813685248+x.toNat/2251799813685248)%18446744073709551616=_
 omega
theorem carry_n(x:Fl):x.carry.n=x.n.crr:=by
 unfold Fl.carry Fl.n N5.crr
 simp only[crA_nat,crB_nat]
def N5.add(x y:N5):N5:=N5.crr ⟨(x.a+y.a)%18446744073709551616,(x.b+y.b)%18446744073709551616,(x.c+y.c)%18446744073709551616,(x.d+y.d)%18446744073709551616,(x.e+y.e)%18446744073709551616⟩
theorem add_n(x y:Fl):(x.add y).n=x.n.add y.n:=by
 unfold Fl.add
 rw[carry_n]
 unfold Fl.n N5.add
 simp only[UInt64.toNat_add]
def N5.sub(x y:N5):N5:=N5.crr ⟨(x.a+(18446744073709551616 -y.a+4503599627370458)%18446744073709551616)%18446744073709551616,(x.b+(18446744073709551616 -y.b+4503599627370494)%18446744073709551616)%18446744073709551616,(x.c+(18446744073709551616 -y.c+4503599627370494)%18446744073709551616)%18446744073709551616,(x.d+(18446744073709551616 -y.d+4503599627370494)%18446744073709551616)%18446744073709551616,(x.e+(18446744073709551616 -y.e+4503599627370494)%18446744073709551616)%18446744073709551616⟩
theorem sub_n(x y:Fl):(x.sub y).n=x.n.sub y.n:=by
 unfold Fl.sub
 rw[carry_n]
 unfold Fl.n N5.sub
 simp only[UInt64.toNat_add,UInt64.toNat_sub]
 rfl
def val(w:UInt64 × UInt64):Nat:=w.1.toNat*18446744073709551616+w.2.toNat
theorem val_pl(w:UInt64 × UInt64)(a b:UInt64):val (pl w a b)=(val w+a.toNat*b.toNat)%340282366920938463463374607431768211456:=by
 have ha:=x64_lt a
 have hb:=x64_lt b
 have h0:=x64_lt w.1
 have h1:=x64_lt w.2
 have hp:a.toNat*b.toNat≤18446744073709551615*18446744073709551615:=Nat.mul_le_mul (by omega) (by omega)
 unfold val pl plH plL
 simp only[UInt64.toNat_add,mulH_nat,car_nat,UInt64.toNat_mul]
 show((w.1.toNat+a.toNat*b.toNat/18446744073709551616)%18446744073709551616+(w.2.toNat+a.toNat*b.toNat %18446744073709551616)/18446744073709551616)%18446744073709551616*18446744073709551616+(w.2.toNat+a.toNat*b.toNat %18446744073709551616)%18446744073709551616=_
 generalize a.toNat*b.toNat=p at*
 generalize w.1.toNat=h at*
 generalize w.2.toNat=l at*
 clear ha hb
 omega
theorem shl13(z:UInt64):(shl64 z 13).toNat=z.toNat*8192 %18446744073709551616:=by
 unfold shl64
 rw[UInt64.toNat_ofNat',Nat.shiftLeft_eq]
theorem ovr_nat(h l o:UInt64):(ovr h l o).toNat=(val (h,l)+o.toNat)/2251799813685248 %18446744073709551616:=by
 have h0:=x64_lt h
 have h1:=x64_lt l
 have h2:=x64_lt o
 unfold ovr val
 rw[UInt64.toNat_or,shl13,shr51]
 simp only[UInt64.toNat_add,car_nat]
 show((h.toNat+(l.toNat+o.toNat)/18446744073709551616)%18446744073709551616*8192 %18446744073709551616|||(l.toNat+o.toNat)%18446744073709551616/2251799813685248)=_
 generalize h.toNat=h at*
 generalize l.toNat=l at*
 generalize o.toNat=o at*
 have e:(h+(l+o)/18446744073709551616)%18446744073709551616*8192 %18446744073709551616=(h+(l+o)/18446744073709551616)%2251799813685248*8192:=by omega
 have hlt:(l+o)%18446744073709551616/2251799813685248<2^13:=by
  show _<8192
  omega
 rw[e,show(8192:Nat)=2^13 from rfl,←Nat.shiftLeft_eq,←Nat.shiftLeft_add_eq_or_of_lt hlt,Nat.shiftLeft_eq]
 show _*8192+_=_
 omega
theorem lmb_nat(h l o:UInt64):(lmb l o).toNat=(val (h,l)+o.toNat)%2251799813685248:=by
 unfold lmb val
 rw[mask_nat,UInt64.toNat_add]
 show(l.toNat+o.toNat)%18446744073709551616 %2251799813685248=(h.toNat*18446744073709551616+l.toNat+o.toNat)%2251799813685248
 omega
def N5.bring(w0 w1 w2 w3 w4:Nat):N5:=
 let v1:=w0/2251799813685248 %18446744073709551616
 let v2:=(w1+v1)/2251799813685248 %18446744073709551616
 let v3:=(w2+v2)/2251799813685248 %18446744073709551616
 let v4:=(w3+v3)/2251799813685248 %18446744073709551616
 let ov:=(w4+v4)/2251799813685248 %18446744073709551616
 let y:=ov*19+w0 %2251799813685248
 N5.crr ⟨y %2251799813685248,((w1+v1)%2251799813685248+y/2251799813685248 %18446744073709551616)%18446744073709551616,(w2+v2)%2251799813685248,(w3+v3)%2251799813685248,(w4+v4)%2251799813685248⟩
theorem bring_n(w0 w1 w2 w3 w4:UInt64 × UInt64):(Fl.bring w0.1 w1.1 w2.1 w3.1 w4.1 w0.2 w1.2 w2.2 w3.2 w4.2).n=N5.bring (val w0) (val w1) (val w2) (val w3) (val w4):=by
 have z:(0:UInt64).toNat=0:=rfl
 have k19:∀ov:UInt64,val (mulH ov 19,ov*19)=ov.toNat*19:=fun ov=>by
  have:=x64_lt ov
  unfold val
  rw[mulH_nat,UInt64.toNat_mul]
  show ov.toNat*19/18446744073709551616*18446744073709551616+ov.toNat*19 %18446744073709551616=_
  omega
 unfold Fl.bring N5.bring
 simp only[]
 rw[carry_n]
 congr 1
 unfold Fl.n
 simp only[UInt64.toNat_add]
 rw[lmb_nat (mulH (ovr w4.1 w4.2 (ovr w3.1 w3.2 (ovr w2.1 w2.2 (ovr w1.1 w1.2 (ovr w0.1 w0.2 0))))) 19) ((ovr w4.1 w4.2 (ovr w3.1 w3.2 (ovr w2.1 w2.2 (ovr w1.1 w1.2 (ovr w0.1 w0.2 0)))))*19),lmb_nat w1.1 w1.2,lmb_nat w2.1 w2.2,lmb_nat w3.1 w3.2,lmb_nat w4.1 w4.2,lmb_nat w0.1 w0.2]
 simp only[ovr_nat,k19,z,Nat.add_zero,lmb_nat w0.1 w0.2,show(2:Nat)^64=18446744073709551616 from rfl,show∀w:UInt64 × UInt64,val (w.1,w.2)=val w from fun _=>rfl]
def N5.mul(x y:N5):N5:=
 let m1:=19*y.b %18446744073709551616
 let m2:=19*y.c %18446744073709551616
 let m3:=19*y.d %18446744073709551616
 let m4:=19*y.e %18446744073709551616
 N5.bring ((x.a*y.a+x.b*m4+x.c*m3+x.d*m2+x.e*m1)%340282366920938463463374607431768211456) ((x.a*y.b+x.b*y.a+x.c*m4+x.d*m3+x.e*m2)%340282366920938463463374607431768211456)
  ((x.a*y.c+x.b*y.b+x.c*y.a+x.d*m4+x.e*m3)%340282366920938463463374607431768211456) ((x.a*y.d+x.b*y.c+x.c*y.b+x.d*y.a+x.e*m4)%340282366920938463463374607431768211456)
  ((x.a*y.e+x.b*y.d+x.c*y.c+x.d*y.b+x.e*y.a)%340282366920938463463374607431768211456)
theorem val_pl5(a0 a1 a2 a3 a4 b0 b1 b2 b3 b4:UInt64):val (pl (pl (pl (pl (pl (0,0) a0 b0) a1 b1) a2 b2) a3 b3) a4 b4)=(a0.toNat*b0.toNat+a1.toNat*b1.toNat+a2.toNat*b2.toNat+a3.toNat*b3.toNat+a4.toNat*b4.toNat)%340282366920938463463374607431768211456:=by
 have z:val (0,0)=0:=rfl
 simp only[val_pl,z,Nat.zero_add,Nat.mod_add_mod]
theorem mul_n(x y:Fl):(x.mul y).n=x.n.mul y.n:=by
 have m19:∀z:UInt64,(19*z).toNat=19*z.toNat %18446744073709551616:=fun z=>by
  rw[UInt64.toNat_mul];rfl
 unfold Fl.mul
 simp only[]
 rw[bring_n]
 simp only[val_pl5,m19]
 rfl
section
section
variable{M A B:Fl→Fl→Fl}{D:Fl}(hM:∀x y S,DF lib nk 86 [x.enc,y.enc] S=some ((M x y).enc,S))(hA:∀x y S,DF lib nk 107 [x.enc,y.enc] S=some ((A x y).enc,S))(hB:∀x y S,DF lib nk 108 [x.enc,y.enc] S=some ((B x y).enc,S))(hD:∀S,DF lib nk 109 [] S=some (D.enc,S))
include hM hA hB hD
theorem F_paddG(p o:Pt)(S:St):DF lib nk 84 [p.enc,o.enc] S=some ((p.addG M A B D o).enc,S):=by
 have pb:=pt_bld
 have sp:=pt_spl
 simp only[kz_411e1534]at pb sp
 rw[run_curve_Point_Add,DC_of c_curve_Point_Add.eq_1]
 simp[hM,hA,hB,hD, -AV.cells, -isVal, -binIK,pb,sp,Pt.addG]
end
theorem F_padd(p o:Pt)(S:St):DF lib nk 84 [p.enc,o.enc] S=some ((p.add o).enc,S):=F_paddG F_mul F_add F_sub F_factor p o S
end
end Go.Proofs.YthiocmkadpdekaaGreatDoor.am
