/- Several texts, one behind the other: Vr0 Vr1 Vr2 Vr3 Vr4 Vr5 Vr6 -/
import Derived.Test.YtekgdmhdkhgpjaaGreatDoorSD
import Derived.Lib.DecodeN
import Derived.Test.YtekgdmhdkhgpjaaGreatDoorSI
import Derived.Test.YtekgdmhdkhgpjaaGreatDoorSL
set_option linter.unusedSimpArgs false
set_option linter.unusedVariables false
namespace Go.Proofs.YtekgdmhdkhgpjaaGreatDoor.am
open Go Go.Lib
theorem ba_get (s:List UInt8) (i:Nat):(⟨s.toArray⟩:ByteArray).get! i=s.getD i 0:=by
  show (s.toArray)[i]! = _
  rw [List.getElem!_toArray,List.getElem!_eq_getElem?_getD,List.getD_eq_getElem?_getD]
  rfl
theorem dec_list (s:List UInt8) (i:Nat):Utf8.decode ⟨s.toArray⟩ i=decodeN (s.length - i) (s.getD i 0).toNat (s.getD (i + 1) 0).toNat (s.getD (i + 2) 0).toNat (s.getD (i + 3) 0).toNat:=by
  rw [decode_at,ba_get,ba_get,ba_get,ba_get]
  rfl
theorem dec_ascii {s:List UInt8} {i:Nat} {b:UInt8} (h:s[i]?=some b) (hb:b.toNat < 128):Utf8.decode ⟨s.toArray⟩ i=(b.toNat,1):=by
  rw [dec_list]
  have:s.getD i 0=b:=by simp [List.getD,h]
  rw [this]
  unfold decodeN
  rw [if_pos hb]
theorem decodeN_high {n b0 b1 b2 b3:Nat} (hb:128 ≤ b0) (hn:1 ≤ n):128 ≤ (decodeN n b0 b1 b2 b3).1 ∧ (decodeN n b0 b1 b2 b3).1 ≤ 1114111 ∧ 1 ≤ (decodeN n b0 b1 b2 b3).2 ∧ (decodeN n b0 b1 b2 b3).2 ≤ n ∧
    (2 ≤ (decodeN n b0 b1 b2 b3).2 → 128 ≤ b1) ∧ (3 ≤ (decodeN n b0 b1 b2 b3).2 → 128 ≤ b2) ∧ (4 ≤ (decodeN n b0 b1 b2 b3).2 → 128 ≤ b3) ∧ (decodeN n b0 b1 b2 b3).2 ≤ 4:=by
  unfold decodeN
  rw [if_neg (by omega)]
  repeat' split
  all_goals refine ⟨?_,?_,?_,?_,?_,?_,?_,?_⟩ <;> simp only <;> omega
theorem dec_high {s:List UInt8} {i:Nat} {b:UInt8} (h:s[i]?=some b) (hb:128 ≤ b.toNat) :
    128 ≤ (Utf8.decode ⟨s.toArray⟩ i).1 ∧ (Utf8.decode ⟨s.toArray⟩ i).1 ≤ 1114111 ∧ 1 ≤ (Utf8.decode ⟨s.toArray⟩ i).2 ∧ i + (Utf8.decode ⟨s.toArray⟩ i).2 ≤ s.length ∧ ∀ k,1 ≤ k → k < (Utf8.decode ⟨s.toArray⟩ i).2 → ∀ c,s[i + k]?=some c → 128 ≤ c.toNat:=by
  have hi:=(List.getElem?_eq_some_iff.1 h).1
  have h0:s.getD i 0=b:=by simp [List.getD,h]
  have:=decodeN_high (n:=s.length - i) (b0:=b.toNat) (b1:=(s.getD (i + 1) 0).toNat) (b2:=(s.getD (i + 2) 0).toNat) (b3:=(s.getD (i + 3) 0).toNat) hb (by omega)
  rw [← h0,← dec_list] at this
  obtain ⟨a,b',c,d,e,f,g,j⟩:=this
  refine ⟨a,b',c,by omega,fun k hk1 hk2 x hx => ?_⟩
  have hx':s.getD (i + k) 0=x:=by simp [List.getD,hx]
  have:k=1 ∨ k=2 ∨ k=3:=by omega
  rcases this with rfl | rfl | rfl
  · rw [← hx']; exact e (by omega)
  · rw [← hx']; exact f (by omega)
  · rw [← hx']; exact g (by omega)
end Go.Proofs.YtekgdmhdkhgpjaaGreatDoor.am

set_option linter.unusedSimpArgs false
namespace Go.Proofs.YtekgdmhdkhgpjaaGreatDoor.am
open Go
def nameR (n:Nat):Bool:=(decide (97 ≤ n) && decide (n ≤ 122)) || (decide (48 ≤ n) && decide (n ≤ 57)) || decide (n=95)
def nameAll (s:Str):Bool:=s.all fun b => nameR b.toNat
def nameB (s:Str):Bool:=nameAll s && decide (1 ≤ s.length) && decide (s.length ≤ 12)
theorem nameR_cast (n:Nat):nameR n=((decide ((97:Int) ≤ n) && decide ((n:Int) ≤ 122)) || (decide ((48:Int) ≤ n) && decide ((n:Int) ≤ 57)) || decide ((n:Int)=95)):=by
  unfold nameR
  have e1:((97:Int) ≤ n)=(97 ≤ n):=by simp only [eq_iff_iff]; omega
  have e2:((n:Int) ≤ 122)=(n ≤ 122):=by simp only [eq_iff_iff]; omega
  have e3:((48:Int) ≤ n)=(48 ≤ n):=by simp only [eq_iff_iff]; omega
  have e4:((n:Int) ≤ 57)=(n ≤ 57):=by simp only [eq_iff_iff]; omega
  have e5:((n:Int)=95)=(n=95):=by simp only [eq_iff_iff]; omega
  simp only [e1,e2,e3,e4,e5]
theorem L_dioptreref08_Name (s:Str) (hs:s.length < 9223372036854775808) (nb:Nat) (S:St):∀ d i,i + d=s.length →
    DC lib nk (.loop l_dioptreref08_Name_0) ⟨[(0,.str s),(3,.int .i64 (i:Nat))],[],nb⟩ S=if nameAll (s.drop i) then some (.exit 0,⟨[(0,.str s)],[],nb⟩,S) else some (.ret,⟨[(2,.bool false)],[],nb⟩,S):=by
  intro d
  induction d with
  | zero =>
    intro i hi
    rw [DC_loop',DC_of l_dioptreref08_Name_0.eq_1]
    have h5:¬ i < s.length:=by omega
    have h6:s.drop i=[]:=List.drop_eq_nil_of_le (by omega)
    simp [h5,h6,nameAll]
  | succ d ih =>
    intro i hi
    have h3:i < s.length:=by omega
    rw [DC_loop',DC_of l_dioptreref08_Name_0.eq_1]
    obtain ⟨x,hx,hx'⟩:=get_of_lt' (l:=s) (i:=i) (by omega)
    rw [drop_get hx]
    have hn:=ih (i + 1) (by omega)
    have hw:=wrap_succ (i:=i) (by omega)
    simp at hn hw
    have hr:=nameR_cast x.toNat
    by_cases c1:(97:Int) ≤ x.toNat <;> by_cases c2:(x.toNat:Int) ≤ 122 <;> by_cases c3:(48:Int) ≤ x.toNat <;> by_cases c4:(x.toNat:Int) ≤ 57 <;> by_cases c5:(x.toNat:Int)=95 <;>
      (simp [c1,c2,c3,c4,c5] at hr
       try omega
       all_goals (simp [r_dioptreref08_Name_0,h3,hx,hx',c1,c2,c3,c4,c5,nameAll,hr,evUn]
                  try (rw [DC_keep_of l_dioptreref08_Name_0.eq_1]
                       simp [hw]
                       simpa [nameAll] using hn)))
theorem F_dioptreref08_Name (s:Str) (hs:s.length < 9223372036854775808) (S:St):DF lib nk 47 [.str s] S=some (.bool (nameB s),S):=by
  rw [run_dioptreref08_Name,DC_of c_dioptreref08_Name.eq_1]
  have e:=L_dioptreref08_Name s hs S.length S s.length 0 (by omega)
  simp only [List.drop_zero] at e
  cases hx:nameAll s
  · rw [hx] at e
    simp at e
    simp
    rw [DC_keep_of l_dioptreref08_Name_0.eq_1]
    simp [e,nameB,hx]
  · rw [hx] at e
    simp at e
    simp
    rw [DC_keep_of l_dioptreref08_Name_0.eq_1]
    by_cases c1:(1:Int) ≤ s.length <;> by_cases c2:(s.length:Int) ≤ 12
    · have d1:1 ≤ s.length:=by omega
      have d2:s.length ≤ 12:=by omega
      simp [e,nameB,hx,c1,c2,d1,d2]
    · have d1:1 ≤ s.length:=by omega
      have d2:¬ s.length ≤ 12:=by omega
      simp [e,nameB,hx,c1,c2,d1,d2]
    · have d1:¬ 1 ≤ s.length:=by omega
      simp [e,nameB,hx,c1,c2,d1]
    · have d1:¬ 1 ≤ s.length:=by omega
      simp [e,nameB,hx,c1,c2,d1]
theorem F_value_Name_1 (n:Nat) (S:St):DF lib nk 125 [.int .i32 n] S=some (.bool (!nameR n),S):=by
  rw [run_value_Name_1,DC_of c_value_Name_1.eq_1]
  have hr:=nameR_cast n
  by_cases c1:(97:Int) ≤ n <;> by_cases c2:(n:Int) ≤ 122 <;> by_cases c3:(48:Int) ≤ n <;> by_cases c4:(n:Int) ≤ 57 <;> by_cases c5:(n:Int)=95 <;>
    (simp [c1,c2,c3,c4,c5] at hr
     try omega
     all_goals simp [r_value_Name_1_0,c1,c2,c3,c4,c5,hr,evUn])
theorem nameR_high {n:Nat} (h:128 ≤ n):nameR n=false:=by
  unfold nameR
  have h1:¬ n ≤ 122:=by omega
  have h2:¬ n ≤ 57:=by omega
  have h3:¬ n=95:=by omega
  simp [h1,h2,h3]
theorem L_strings_indexFunc (s:Str) (hs:s.length < 9223372036854775808) (nb:Nat) (S:St):∀ d pos,s.length - pos ≤ d →
    (nameAll (s.drop pos)=true → ∃ s1,DC lib nk (.loop l_strings_indexFunc_0) ⟨[(1,.fn 125 [] []),(2,.bool true),(10,.ptr S.length 0)],[],nb⟩ (S ++ [.iter s pos])=some (.exit 0,⟨[],[],nb⟩,S ++ [.iter s s1])) ∧
    (nameAll (s.drop pos)=false → ∃ (k s1:Nat),DC lib nk (.loop l_strings_indexFunc_0) ⟨[(1,.fn 125 [] []),(2,.bool true),(10,.ptr S.length 0)],[],nb⟩ (S ++ [.iter s pos])=some (.ret,⟨[(6,.int .i64 k)],[],nb⟩,S ++ [.iter s s1])):=by
  have fin:∀ pos,¬ pos < s.length → (nameAll (s.drop pos)=true → ∃ s1,DC lib nk (.loop l_strings_indexFunc_0) ⟨[(1,.fn 125 [] []),(2,.bool true),(10,.ptr S.length 0)],[],nb⟩ (S ++ [.iter s pos])=some (.exit 0,⟨[],[],nb⟩,S ++ [.iter s s1])) ∧
    (nameAll (s.drop pos)=false → ∃ (k s1:Nat),DC lib nk (.loop l_strings_indexFunc_0) ⟨[(1,.fn 125 [] []),(2,.bool true),(10,.ptr S.length 0)],[],nb⟩ (S ++ [.iter s pos])=some (.ret,⟨[(6,.int .i64 k)],[],nb⟩,S ++ [.iter s s1])):=by
    intro pos h
    have h6:s.drop pos=[]:=List.drop_eq_nil_of_le (by omega)
    refine ⟨fun _ => ⟨pos,?_⟩,fun h7 => by simp [h6,nameAll] at h7⟩
    rw [DC_loop',DC_of l_strings_indexFunc_0.eq_1]
    simp [evNext,h]
  intro d
  induction d with
  | zero => intro pos hd; exact fin pos (by omega)
  | succ d ih =>
    intro pos hd
    rcases Nat.lt_or_ge pos s.length with h3 | h3
    rotate_left
    · exact fin pos (by omega)
    obtain ⟨x,hx,hx'⟩:=get_of_lt' (l:=s) (i:=pos) h3
    rw [drop_get hx]
    by_cases hb:x.toNat < 128
    · have hdec:=dec_ascii hx hb
      have hcall:=F_value_Name_1 x.toNat (S ++ [.iter s (pos + 1)])
      obtain ⟨ih1,ih2⟩:=ih (pos + 1) (by omega)
      cases hr:nameR x.toNat
      · refine ⟨fun h => by simp [nameAll,hr] at h,fun _ => ⟨pos,pos + 1,?_⟩⟩
        rw [DC_loop',DC_of l_strings_indexFunc_0.eq_1]
        rw [hr] at hcall
        simp [evNext,h3,hdec,hcall]
      · have step:DC lib nk (.loop l_strings_indexFunc_0) ⟨[(1,.fn 125 [] []),(2,.bool true),(10,.ptr S.length 0)],[],nb⟩ (S ++ [.iter s pos])=DC lib nk (.loop l_strings_indexFunc_0) ⟨[(1,.fn 125 [] []),(2,.bool true),(10,.ptr S.length 0)],[],nb⟩ (S ++ [.iter s (pos + 1)]):=by
          rw [DC_loop',DC_of l_strings_indexFunc_0.eq_1]
          rw [hr] at hcall
          simp [evNext,h3,hdec,hcall]
          rw [DC_keep_of l_strings_indexFunc_0.eq_1]
          simp
        rw [step]
        refine ⟨fun h => ih1 (by simpa [nameAll,hr] using h),fun h => ih2 (by simpa [nameAll,hr] using h)⟩
    · obtain ⟨k1,_⟩:=dec_high hx (by omega)
      have hr:=nameR_high (n:=x.toNat) (by omega)
      have hcall:=F_value_Name_1 (Utf8.decode ⟨s.toArray⟩ pos).1 (S ++ [.iter s (pos + (Utf8.decode ⟨s.toArray⟩ pos).2)])
      rw [nameR_high k1] at hcall
      refine ⟨fun h => by simp [nameAll,hr] at h,fun _ => ⟨pos,pos + (Utf8.decode ⟨s.toArray⟩ pos).2,?_⟩⟩
      rw [DC_loop',DC_of l_strings_indexFunc_0.eq_1]
      simp at hcall
      simp [evNext,h3,hcall]
theorem F_strings_indexFunc (s:Str) (hs:s.length < 9223372036854775808) (S:St):∃ k:Int,(k < 0 ↔ nameAll s=true) ∧ DF lib nk 136 [.str s,.fn 125 [] [],.bool true] S=some (.int .i64 k,S):=by
  rw [run_strings_indexFunc,DC_of c_strings_indexFunc.eq_1]
  obtain ⟨h1,h2⟩:=L_strings_indexFunc s hs S.length S s.length 0 (by omega)
  simp only [List.drop_zero] at h1 h2
  cases hx:nameAll s
  · obtain ⟨k,s1,e⟩:=h2 hx
    refine ⟨k,by simp,?_⟩
    simp [rangeK]
    rw [DC_keep_of l_strings_indexFunc_0.eq_1]
    simp [e]
  · obtain ⟨s1,e⟩:=h1 hx
    refine ⟨-1,by simp,?_⟩
    simp [rangeK]
    rw [DC_keep_of l_strings_indexFunc_0.eq_1]
    simp [e]
theorem F_strings_IndexFunc (s:Str) (hs:s.length < 9223372036854775808) (S:St):∃ k:Int,(k < 0 ↔ nameAll s=true) ∧ DF lib nk 124 [.str s,.fn 125 [] []] S=some (.int .i64 k,S):=by
  rw [run_strings_IndexFunc,DC_of c_strings_IndexFunc.eq_1]
  obtain ⟨k,h1,h2⟩:=F_strings_indexFunc s hs S
  exact ⟨k,h1,by simp [h2]⟩
theorem F_value_Name (s:Str) (hs:s.length < 9223372036854775808) (S:St):DF lib nk 101 [.str s] S=some (.bool (nameB s),S):=by
  rw [run_value_Name,DC_of c_value_Name.eq_1]
  obtain ⟨k,h1,h2⟩:=F_strings_IndexFunc s hs S
  have hk:decide (k < 0)=nameAll s:=by
    cases hx:nameAll s
    · rw [hx] at h1; simp at h1; simp; omega
    · rw [hx] at h1; simp at h1; simp [h1]
  unfold nameB
  by_cases c1:s=[]
  · subst c1
    simp [h2]
  · have c3:s.isEmpty=false:=by simpa using c1
    have d1:1 ≤ s.length:=by cases s with | nil => exact absurd rfl c1 | cons a l => simp
    by_cases c2:(s.length:Int) ≤ 12
    · have d2:s.length ≤ 12:=by omega
      simp [h2,c1,c2,c3,d1,d2,hk]
    · have d2:¬ s.length ≤ 12:=by omega
      simp [h2,c1,c2,c3,d1,d2]
end Go.Proofs.YtekgdmhdkhgpjaaGreatDoor.am

set_option linter.unusedSimpArgs false
namespace Go.Proofs.YtekgdmhdkhgpjaaGreatDoor.am
open Go
def goN:Option Str → List Str → Bool
  | _,[] => true
  | p,s :: r => nameB s && (match p with | none => true | some q => Op.bytesLess q s) && goN (some s) r
def prevN (l:List Str) (i:Nat):Option Str:=if i=0 then none else l[i - 1]?
theorem prevN_succ {l:List Str} {i:Nat} {x:Str} (h:l[i]?=some x):prevN l (i + 1)=some x:=by simp [prevN,h]
def goI:List Int → List Int → Bool
  | _,[] => true
  | seen,n :: r => decide (n ≠ 0) && !(seen.contains n) && goI (seen ++ [n]) r
def idxD {α:Type} [DecidableEq α] (x:α):List α → Nat → Int
  | [],_ => -1
  | a :: r,k => if a=x then (k:Int) else idxD x r (k + 1)
theorem idxD_neg {α:Type} [DecidableEq α] (x:α):∀ (l:List α) (k:Nat),(0 ≤ idxD x l k) ↔ x ∈ l
  | [],k => by simp [idxD]
  | a :: r,k => by
    unfold idxD
    split
    · rename_i e; subst e; simp
    · rename_i e
      rw [idxD_neg x r (k + 1)]
      simp only [List.mem_cons]
      exact ⟨.inr,fun h => h.elim (fun h => absurd h.symm e) id⟩
theorem L_slices_Index_uint64 (l:List Int) (x:Int) (hl:l.length < 9223372036854775808) (nb:Nat) (S:St):∀ d i,i + d=l.length →
    DC lib nk (.loop l_slices_Index_uint64_0) ⟨[(0,encIds l),(1,.int .u64 x),(7,.int .i64 l.length),(8,.int .i64 (i:Nat))],[],nb⟩ S=if 0 ≤ idxD x (l.drop i) i then some (.ret,⟨[(4,.int .i64 (idxD x (l.drop i) i))],[],nb⟩,S) else some (.exit 0,⟨[],[],nb⟩,S):=by
  intro d
  induction d with
  | zero =>
    intro i hi
    rw [DC_loop',DC_of l_slices_Index_uint64_0.eq_1]
    have h5:¬ i < l.length:=by omega
    have h6:l.drop i=[]:=List.drop_eq_nil_of_le (by omega)
    simp [h5,h6,idxD]
  | succ d ih =>
    intro i hi
    have h3:i < l.length:=by omega
    rw [DC_loop',DC_of l_slices_Index_uint64_0.eq_1]
    obtain ⟨y,hy,hy'⟩:=get_of_lt' (l:=l) (i:=i) (by omega)
    rw [drop_get hy]
    have hn:=ih (i + 1) (by omega)
    have hw:=wrap_succ (i:=i) (by omega)
    simp at hn hw
    by_cases e:y=x
    · subst e
      simp [h3,hy,hy',idxD]
    · have e':¬ x=y:=fun h => e h.symm
      simp [h3,hy,hy',idxD,e,e']
      rw [DC_keep_of l_slices_Index_uint64_0.eq_1]
      simp [hw]
      exact hn
theorem F_slices_Index_uint64 (l:List Int) (x:Int) (hl:l.length < 9223372036854775808) (S:St):DF lib nk 118 [encIds l,.int .u64 x] S=some (.int .i64 (idxD x l 0),S):=by
  rw [run_slices_Index_uint64,DC_of c_slices_Index_uint64.eq_1]
  have h:=L_slices_Index_uint64 l x hl S.length S l.length 0 (by omega)
  simp only [List.drop_zero] at h
  by_cases c:0 ≤ idxD x l 0
  · simp [c] at h
    simp
    rw [DC_keep_of l_slices_Index_uint64_0.eq_1]
    simp [h]
  · have hm:idxD x l 0=-1:=by
      have:∀ (l:List Int) (k:Nat),-1 ≤ idxD x l k:=by
        intro l
        induction l with
        | nil => intro k; simp [idxD]
        | cons a r ih => intro k; unfold idxD; split; omega; exact ih _
      have:=this l 0
      omega
    simp [c] at h
    simp
    rw [DC_keep_of l_slices_Index_uint64_0.eq_1]
    simp [h,hm]
theorem F_slices_Contains_uint64 (l:List Int) (x:Int) (hl:l.length < 9223372036854775808) (S:St):DF lib nk 126 [encIds l,.int .u64 x] S=some (.bool (l.contains x),S):=by
  rw [run_slices_Contains_uint64,DC_of c_slices_Contains_uint64.eq_1]
  have h:=F_slices_Index_uint64 l x hl S
  have e:decide (0 ≤ idxD x l 0)=l.contains x:=by
    rw [Bool.eq_iff_iff]
    simp [idxD_neg]
  simp [h,e]
theorem slL_take (l:List Int) (i:Nat) (h:i < l.length):slLK 1 (encIds l) none (some (.int .i64 i))=some (encIds (l.take i)):=by
  cases l with
  | nil => simp at h
  | cons a r =>
    have hle:i ≤ r.length + 1:=by simp at h; omega
    have hne:¬ i=r.length + 1:=by simp at h; omega
    have hi:(i:Int) ≤ (r.length:Int) + 1:=by omega
    cases i with
    | zero =>
      have h0:(0:Int) ≤ (r.length:Int) + 1:=by omega
      simp [encIds,encSl,slLK,lent,h0]
    | succ i =>
      have hi':(i:Int) + 1 ≤ (r.length:Int) + 1:=by omega
      have hne':¬ i=r.length:=by omega
      have e1:((i:Int) + 1).toNat=i + 1:=by omega
      have e0:(0:Int) ≤ (i:Int) + 1:=by omega
      simp [encIds,encSl,slLK,lent,hi',hne',e1,e0]
theorem L_value_unlike (l:List Int) (hl:l.length < 9223372036854775808) (nb:Nat) (S:St):∀ d i,i + d=l.length →
    DC lib nk (.loop l_value_unlike_0) ⟨[(0,encIds l),(5,encIds l),(6,.int .i64 l.length),(7,.int .i64 (i:Nat))],[],nb⟩ S=if goI (l.take i) (l.drop i) then some (.exit 0,⟨[(0,encIds l)],[],nb⟩,S) else some (.ret,⟨[(2,.bool false)],[],nb⟩,S):=by
  intro d
  induction d with
  | zero =>
    intro i hi
    rw [DC_loop',DC_of l_value_unlike_0.eq_1]
    have h5:¬ i < l.length:=by omega
    have h6:l.drop i=[]:=List.drop_eq_nil_of_le (by omega)
    simp [h5,h6,goI]
  | succ d ih =>
    intro i hi
    have h3:i < l.length:=by omega
    rw [DC_loop',DC_of l_value_unlike_0.eq_1]
    obtain ⟨y,hy,hy'⟩:=get_of_lt' (l:=l) (i:=i) (by omega)
    rw [drop_get hy]
    have hn:=ih (i + 1) (by omega)
    have hw:=wrap_succ (i:=i) (by omega)
    have ht:l.take (i + 1)=l.take i ++ [y]:=by rw [List.take_add_one,hy]; rfl
    rw [ht] at hn
    have hc:=F_slices_Contains_uint64 (l.take i) y (by simp; omega) S
    have hs:=slL_take l i h3
    simp at hn hw
    by_cases e:y=0
    · subst e
      simp [h3,hy,hy',goI]
    · by_cases hx:y ∈ l.take i
      · have hx':(l.take i).contains y=true:=by simpa using hx
        rw [hx'] at hc
        simp [h3,hy,hy',goI,e,hs,hc,hx]
      · have hx':(l.take i).contains y=false:=by simpa using hx
        rw [hx'] at hc
        simp [h3,hy,hy',goI,e,hs,hc,hx]
        rw [DC_keep_of l_value_unlike_0.eq_1]
        simp [hw]
        exact hn
theorem F_value_unlike (l:List Int) (hl:l.length < 9223372036854775808) (S:St):DF lib nk 103 [encIds l] S=some (.bool (goI [] l && decide (l.length ≤ 12)),S):=by
  rw [run_value_unlike,DC_of c_value_unlike.eq_1]
  have h:=L_value_unlike l hl S.length S l.length 0 (by omega)
  simp only [List.drop_zero,List.take_zero] at h
  cases hx:goI [] l
  · rw [hx] at h
    simp at h
    simp
    rw [DC_keep_of l_value_unlike_0.eq_1]
    simp [h]
  · rw [hx] at h
    simp at h
    simp
    rw [DC_keep_of l_value_unlike_0.eq_1]
    have e:decide ((l.length:Int) ≤ 12)=decide (l.length ≤ 12):=by rw [Bool.eq_iff_iff]; simp; omega
    simp [h,e]
end Go.Proofs.YtekgdmhdkhgpjaaGreatDoor.am

set_option linter.unusedSimpArgs false
namespace Go.Proofs.YtekgdmhdkhgpjaaGreatDoor.am
open Go
theorem L_value_rising (l:List Str) (hl:l.length < 9223372036854775808) (hn:∀ x ∈ l,x.length < 9223372036854775808) (nb:Nat) (S:St):∀ d i,i + d=l.length →
    DC lib nk (.loop l_value_rising_0) ⟨[(0,encStrs l),(5,encStrs l),(6,.int .i64 l.length),(7,.int .i64 (i:Nat))],[],nb⟩ S=if goN (prevN l i) (l.drop i) then some (.exit 0,⟨[(0,encStrs l)],[],nb⟩,S) else some (.ret,⟨[(2,.bool false)],[],nb⟩,S):=by
  intro d
  induction d with
  | zero =>
    intro i hi
    rw [DC_loop',DC_of l_value_rising_0.eq_1]
    have h5:¬ i < l.length:=by omega
    have h6:l.drop i=[]:=List.drop_eq_nil_of_le (by omega)
    simp [h5,h6,goN]
  | succ d ih =>
    intro i hi
    have h3:i < l.length:=by omega
    rw [DC_loop',DC_of l_value_rising_0.eq_1]
    obtain ⟨y,hy,hy'⟩:=get_of_lt' (l:=l) (i:=i) (by omega)
    rw [drop_get hy]
    have hr:=ih (i + 1) (by omega)
    rw [prevN_succ hy] at hr
    have hw:=wrap_succ (i:=i) (by omega)
    have hnm:=F_value_Name y (hn y (List.mem_of_getElem? hy)) S
    simp at hr hw
    cases hx:nameB y
    · rw [hx] at hnm
      simp [r_value_rising_0,h3,hy,hy',goN,hnm,hx,evUn]
    · rw [hx] at hnm
      rcases Nat.eq_zero_or_pos i with hz0 | hpos
      · have hp:prevN l i=none:=by simp [prevN,hz0]
        have hz1:¬ 0 < i:=by omega
        have hz2:¬ (0:Int) < i:=by omega
        simp [r_value_rising_0,h3,hy,hy',goN,hnm,hx,evUn,hp,hz1,hz2]
        rw [DC_keep_of l_value_rising_0.eq_1]
        simp [hw]
        exact hr
      · obtain ⟨z,hz,hz'⟩:=get_of_lt' (l:=l) (i:=i - 1) (by omega)
        have hp:prevN l i=some z:=by simp [prevN,hz]; omega
        have hw2:IntKind.wrap .i64 ((i:Int) - 1)=((i - 1:Nat):Int):=by rw [wrap_i64 _ (by omega) (by omega)]; omega
        have hpos':(0:Int) < i:=by omega
        cases hb:Op.bytesLess z y
        · simp [r_value_rising_0,h3,hy,hy',goN,hnm,hx,evUn,hp,hpos,hpos',hw2,hz,hb]
        · simp [r_value_rising_0,h3,hy,hy',goN,hnm,hx,evUn,hp,hpos,hpos',hw2,hz,hb]
          rw [DC_keep_of l_value_rising_0.eq_1]
          simp [hw]
          exact hr
theorem F_value_rising (l:List Str) (hl:l.length < 9223372036854775808) (hn:∀ x ∈ l,x.length < 9223372036854775808) (S:St):DF lib nk 102 [encStrs l] S=some (.bool (goN none l && decide (l.length ≤ 8)),S):=by
  rw [run_value_rising,DC_of c_value_rising.eq_1]
  have h:=L_value_rising l hl hn S.length S l.length 0 (by omega)
  simp only [List.drop_zero,prevN,if_true] at h
  cases hx:goN none l
  · rw [hx] at h
    simp at h
    simp
    rw [DC_keep_of l_value_rising_0.eq_1]
    simp [h]
  · rw [hx] at h
    simp at h
    simp
    rw [DC_keep_of l_value_rising_0.eq_1]
    have e:decide ((l.length:Int) ≤ 8)=decide (l.length ≤ 8):=by rw [Bool.eq_iff_iff]; simp; omega
    simp [h,e]
def Val.bare (v:Val):Bool:=v.names.isEmpty && (v.ids.isEmpty && v.parts.isEmpty)
def Val.plainB (v:Val):Bool :=
  if v.kind=1 then v.bare && (v.s.isEmpty && (decide (v.n=0) || decide (v.n=1)))
  else if v.kind=2 then v.bare && v.s.isEmpty
  else if v.kind=3 then v.bare && (decide (v.n=0) && decide (v.s.length ≤ 64))
  else if v.kind=4 then v.bare && (decide (v.n=0) && nameB v.s)
  else if v.kind=5 then decide (v.n=0) && (v.s.isEmpty && (v.ids.isEmpty && (decide (v.parts.length=v.names.length) && (goN none v.names && decide (v.names.length ≤ 8)))))
  else if v.kind=6 then decide (v.n=0) && (v.s.isEmpty && (v.names.isEmpty && (decide (v.parts.length=v.ids.length) && (goI [] v.ids && decide (v.ids.length ≤ 12)))))
  else false
section
variable (v:Val) (S:St) (sl:KE) (tips:List (Option Nat)) (nb:Nat) (k:KC) (w:Bool)
theorem RL_value_plain_0 (h1:KE.get sl 1=.ptr S.length 0):seqC lib nk (.keep [1,3] k) (regC (evKs (viaK nk (DF lib nk)) r_value_plain_0 ⟨sl,tips,nb⟩ (S ++ [.mem v.enc [] false])))=DC lib nk k ⟨[(1,.ptr S.length 0),(3,.bool v.bare)],tips,nb⟩ (S ++ [.mem v.enc [] false]):=by
  unfold r_value_plain_0 Val.bare
  by_cases c1:v.names=[]
  · by_cases c2:v.ids=[]
    · by_cases c3:v.parts=[]
      · simp [h1,c1,c2,c3]
      · have d3:v.parts.isEmpty=false:=by simpa using c3
        simp [h1,c1,c2,c3,d3]
    · have d2:v.ids.isEmpty=false:=by simpa using c2
      simp [h1,c1,c2,d2]
  · have d1:v.names.isEmpty=false:=by simpa using c1
    simp [h1,c1,d1]
theorem RL_value_plain_1 (h1:KE.get sl 1=.ptr S.length 0) (h3:KE.get sl 3=.bool w):seqC lib nk (.keep [2] k) (regC (evKs (viaK nk (DF lib nk)) r_value_plain_1 ⟨sl,tips,nb⟩ (S ++ [.mem v.enc [] false])))=DC lib nk k ⟨[(2,.bool (w && (v.s.isEmpty && (decide (v.n=0) || decide (v.n=1)))))],tips,nb⟩ (S ++ [.mem v.enc [] false]):=by
  unfold r_value_plain_1
  cases w
  · simp [h1,h3]
  · by_cases c1:v.s=[]
    · by_cases c2:v.n=0
      · simp [h1,h3,c1,c2]
      · by_cases c3:v.n=1
        · simp [h1,h3,c1,c2,c3]
        · simp [h1,h3,c1,c2,c3]
    · have d1:v.s.isEmpty=false:=by simpa using c1
      simp [h1,h3,c1,d1]
theorem RL_value_plain_2 (h1:KE.get sl 1=.ptr S.length 0) (h3:KE.get sl 3=.bool w):seqC lib nk (.keep [2] k) (regC (evKs (viaK nk (DF lib nk)) r_value_plain_2 ⟨sl,tips,nb⟩ (S ++ [.mem v.enc [] false])))=DC lib nk k ⟨[(2,.bool (w && (decide (v.n=0) && decide (v.s.length ≤ 64))))],tips,nb⟩ (S ++ [.mem v.enc [] false]):=by
  unfold r_value_plain_2
  have e:decide ((v.s.length:Int) ≤ 64)=decide (v.s.length ≤ 64):=by rw [Bool.eq_iff_iff]; simp; omega
  cases w
  · simp [h1,h3]
  · by_cases c2:v.n=0
    · simp [h1,h3,c2,e]
    · simp [h1,h3,c2]
theorem RL_value_plain_3 (hs:v.s.length < 9223372036854775808) (h1:KE.get sl 1=.ptr S.length 0) (h3:KE.get sl 3=.bool w):seqC lib nk (.keep [2] k) (regC (evKs (viaK nk (DF lib nk)) r_value_plain_3 ⟨sl,tips,nb⟩ (S ++ [.mem v.enc [] false])))=DC lib nk k ⟨[(2,.bool (w && (decide (v.n=0) && nameB v.s)))],tips,nb⟩ (S ++ [.mem v.enc [] false]):=by
  unfold r_value_plain_3
  have e:=F_value_Name v.s hs (S ++ [.mem v.enc [] false])
  cases w
  · simp [h1,h3]
  · by_cases c2:v.n=0
    · simp [h1,h3,c2,e]
    · simp [h1,h3,c2]
theorem RL_value_plain_4 (hl:v.names.length < 9223372036854775808) (hn:∀ x ∈ v.names,x.length < 9223372036854775808) (h1:KE.get sl 1=.ptr S.length 0):seqC lib nk (.keep [2] k) (regC (evKs (viaK nk (DF lib nk)) r_value_plain_4 ⟨sl,tips,nb⟩ (S ++ [.mem v.enc [] false])))=DC lib nk k ⟨[(2,.bool (decide (v.n=0) && (v.s.isEmpty && (v.ids.isEmpty && (decide (v.parts.length=v.names.length) && (goN none v.names && decide (v.names.length ≤ 8)))))))],tips,nb⟩ (S ++ [.mem v.enc [] false]):=by
  unfold r_value_plain_4
  have e:=F_value_rising v.names hl hn (S ++ [.mem v.enc [] false])
  by_cases c2:v.n=0
  · by_cases c1:v.s=[]
    · by_cases c3:v.ids=[]
      · by_cases c4:v.parts.length=v.names.length
        · simp [h1,c1,c2,c3,c4,e]
        · simp [h1,c1,c2,c3,c4,e]
      · have d3:v.ids.isEmpty=false:=by simpa using c3
        simp [h1,c1,c2,c3,d3]
    · have d1:v.s.isEmpty=false:=by simpa using c1
      simp [h1,c1,c2,d1]
  · simp [h1,c2]
theorem RL_value_plain_5 (hl:v.ids.length < 9223372036854775808) (h1:KE.get sl 1=.ptr S.length 0):seqC lib nk (.keep [2] k) (regC (evKs (viaK nk (DF lib nk)) r_value_plain_5 ⟨sl,tips,nb⟩ (S ++ [.mem v.enc [] false])))=DC lib nk k ⟨[(2,.bool (decide (v.n=0) && (v.s.isEmpty && (v.names.isEmpty && (decide (v.parts.length=v.ids.length) && (goI [] v.ids && decide (v.ids.length ≤ 12)))))))],tips,nb⟩ (S ++ [.mem v.enc [] false]):=by
  unfold r_value_plain_5
  have e:=F_value_unlike v.ids hl (S ++ [.mem v.enc [] false])
  by_cases c2:v.n=0
  · by_cases c1:v.s=[]
    · by_cases c3:v.names=[]
      · by_cases c4:v.parts.length=v.ids.length
        · simp [h1,c1,c2,c3,c4,e]
        · simp [h1,c1,c2,c3,c4,e]
      · have d3:v.names.isEmpty=false:=by simpa using c3
        simp [h1,c1,c2,c3,d3]
    · have d1:v.s.isEmpty=false:=by simpa using c1
      simp [h1,c1,c2,d1]
  · simp [h1,c2]
end
theorem F_value_plain (v:Val) (hv:v.Wf1) (S:St):DF lib nk 77 [.agg v.enc] S=some (.bool v.plainB,S):=by
  rw [run_value_plain,DC_of c_value_plain.eq_1]
  unfold Val.plainB
  by_cases k1:v.kind=1
  · simp [RL_value_plain_0,RL_value_plain_1,k1]
  by_cases k2:v.kind=2
  · cases hb:v.bare
    · simp [RL_value_plain_0,k2,hb]
    · by_cases c1:v.s=[]
      · simp [RL_value_plain_0,k2,hb,c1]
      · have d1:v.s.isEmpty=false:=by simpa using c1
        simp [RL_value_plain_0,k2,hb,c1,d1]
  by_cases k3:v.kind=3
  · simp [RL_value_plain_0,RL_value_plain_2,k3]
  by_cases k4:v.kind=4
  · simp [RL_value_plain_0,RL_value_plain_3 v _ _ _ _ _ _ hv.s,k4]
  by_cases k5:v.kind=5
  · simp [RL_value_plain_0,RL_value_plain_4 v _ _ _ _ _ hv.names hv.name,k5]
  by_cases k6:v.kind=6
  · simp [RL_value_plain_0,RL_value_plain_5 v _ _ _ _ _ hv.ids,k6]
  simp [RL_value_plain_0,k1,k2,k3,k4,k5,k6]
end Go.Proofs.YtekgdmhdkhgpjaaGreatDoor.am

set_option linter.unusedSimpArgs false
namespace Go.Proofs.YtekgdmhdkhgpjaaGreatDoor.am
open Go
@[simp] theorem strip_ptr (i o:Nat):strip (.ptr i o)=.ptr i o:=rfl
theorem L_slices_IndexFunc_api_Value (g:FuncId) (hg:nk.prim g=none) (hraw:rawF g=false) (j:Nat) (F:Val → Bool) (l:List Val) (hl:l.length < 9223372036854775808) (nb:Nat) (S:St)
    (hF:∀ x ∈ l,DF lib nk g [.agg x.enc,.ptr j 0] S=some (.bool (F x),S)):∀ d i,i + d=l.length →
    ((l.drop i).any F=false → DC lib nk (.loop l_slices_IndexFunc_api_Value_0) ⟨[(0,encVs l),(1,.fn g [] [.ptr j 0]),(7,.int .i64 l.length),(8,.int .i64 (i:Nat))],[],nb⟩ S=some (.exit 0,⟨[],[],nb⟩,S)) ∧
    ((l.drop i).any F=true → ∃ k:Nat,DC lib nk (.loop l_slices_IndexFunc_api_Value_0) ⟨[(0,encVs l),(1,.fn g [] [.ptr j 0]),(7,.int .i64 l.length),(8,.int .i64 (i:Nat))],[],nb⟩ S=some (.ret,⟨[(4,.int .i64 k)],[],nb⟩,S)):=by
  intro d
  induction d with
  | zero =>
    intro i hi
    have h5:¬ i < l.length:=by omega
    have h6:l.drop i=[]:=List.drop_eq_nil_of_le (by omega)
    refine ⟨fun _ => ?_,fun h => by simp [h6] at h⟩
    rw [DC_loop',DC_of l_slices_IndexFunc_api_Value_0.eq_1]
    simp [h5]
  | succ d ih =>
    intro i hi
    have h3:i < l.length:=by omega
    obtain ⟨y,hy,hy'⟩:=get_of_lt' (l:=l) (i:=i) (by omega)
    rw [drop_get hy]
    obtain ⟨hn1,hn2⟩:=ih (i + 1) (by omega)
    have hw:=wrap_succ (i:=i) (by omega)
    have hc:=hF y (List.mem_of_getElem? hy)
    simp at hw
    cases hx:F y
    · rw [hx] at hc
      have step:DC lib nk (.loop l_slices_IndexFunc_api_Value_0) ⟨[(0,encVs l),(1,.fn g [] [.ptr j 0]),(7,.int .i64 l.length),(8,.int .i64 (i:Nat))],[],nb⟩ S=DC lib nk (.loop l_slices_IndexFunc_api_Value_0) ⟨[(0,encVs l),(1,.fn g [] [.ptr j 0]),(7,.int .i64 l.length),(8,.int .i64 ((i + 1:Nat):Int))],[],nb⟩ S:=by
        rw [DC_loop',DC_of l_slices_IndexFunc_api_Value_0.eq_1]
        simp [h3,hy,hy',hg,hraw,hc]
        rw [DC_keep_of l_slices_IndexFunc_api_Value_0.eq_1]
        simp [hw]
      rw [step]
      refine ⟨fun h => hn1 (by simpa [hx] using h),fun h => hn2 (by simpa [hx] using h)⟩
    · rw [hx] at hc
      refine ⟨fun h => by simp [hx] at h,fun _ => ⟨i,?_⟩⟩
      rw [DC_loop',DC_of l_slices_IndexFunc_api_Value_0.eq_1]
      simp [h3,hy,hy',hg,hraw,hc]
theorem F_slices_ContainsFunc_api_Value (g:FuncId) (hg:nk.prim g=none) (hraw:rawF g=false) (j:Nat) (F:Val → Bool) (l:List Val) (hl:l.length < 9223372036854775808) (S:St)
    (hF:∀ x ∈ l,DF lib nk g [.agg x.enc,.ptr j 0] S=some (.bool (F x),S)):DF lib nk 78 [encVs l,.fn g [] [.ptr j 0]] S=some (.bool (l.any F),S):=by
  have key:∃ k:Int,(0 ≤ k ↔ l.any F=true) ∧ DF lib nk 104 [encVs l,.fn g [] [.ptr j 0]] S=some (.int .i64 k,S):=by
    rw [run_slices_IndexFunc_api_Value,DC_of c_slices_IndexFunc_api_Value.eq_1]
    obtain ⟨h1,h2⟩:=L_slices_IndexFunc_api_Value g hg hraw j F l hl S.length S hF l.length 0 (by omega)
    simp only [List.drop_zero] at h1 h2
    cases hx:l.any F
    · have e:=h1 hx
      simp at e
      refine ⟨-1,by simp,?_⟩
      simp
      rw [DC_keep_of l_slices_IndexFunc_api_Value_0.eq_1]
      simp [e]
    · obtain ⟨k,e⟩:=h2 hx
      simp at e
      refine ⟨k,by simp,?_⟩
      simp
      rw [DC_keep_of l_slices_IndexFunc_api_Value_0.eq_1]
      simp [e]
  rw [run_slices_ContainsFunc_api_Value,DC_of c_slices_ContainsFunc_api_Value.eq_1]
  obtain ⟨k,h1,h2⟩:=key
  have e:decide (0 ≤ k)=l.any F:=by rw [Bool.eq_iff_iff]; simpa using h1
  simp [h2,e]
def Val.rightB:Nat → Val → Bool
  | 0,_ => false
  | d + 1,v => v.plainB && v.parts.all (Val.rightB d)
theorem F_value_right_1 (d:Nat) (hd:d < 1000000) (x:Val) (j:Nat) (S:St) (bt:List (Option Nat)) (lk:Bool) (hS:S[j]?=some (.mem [.int .i64 ((d + 1:Nat):Int)] bt lk))
    (hF:∀ S,DF lib nk 49 [.agg x.enc,.int .i64 d] S=some (.bool (x.rightB d),S)):DF lib nk 79 [.agg x.enc,.ptr j 0] S=some (.bool (!x.rightB d),S):=by
  rw [DF_run (lib:=lib) (f:=79) (k:=k_value_right_1) rfl (Nat.le_of_ble_eq_true rfl) S]
  unfold k_value_right_1
  simp only [argsK_cons,argsK_nil]
  rw [DC_of c_value_right_1.eq_1]
  have hj:=(List.getElem?_eq_some_iff.1 hS).1
  have hld:∀ b,loadK (S ++ [b]) .cell (.ptr j 0)=some (.int .i64 ((d + 1:Nat):Int)):=by
    intro b
    rw [loadK_ptr (cs:=[.int .i64 ((d + 1:Nat):Int)]) (tips:=bt) (l:=lk) (by rw [List.getElem?_append_left hj]; exact hS)]
    rfl
  have hw:IntKind.wrap .i64 (((d + 1:Nat):Int) - 1)=d:=by rw [wrap_i64 _ (by omega) (by omega)]; omega
  simp at hld hw
  simp [hld,hw,hF,evUn]
theorem F_value_right (d:Nat) (hd:d < 1000000):∀ (v:Val),v.Wf → ∀ S:St,DF lib nk 49 [.agg v.enc,.int .i64 d] S=some (.bool (v.rightB d),S):=by
  induction d with
  | zero =>
    intro v hv S
    rw [run_value_right,DC_of c_value_right.eq_1]
    simp [r_value_right_0,Val.rightB]
  | succ d ih =>
    intro v hv S
    rw [run_value_right,DC_of c_value_right.eq_1]
    have h1:=F_value_plain v hv.one (S ++ [.mem v.enc [] false,.mem [.int .i64 ((d + 1:Nat):Int)] [] false])
    have h2:=F_slices_ContainsFunc_api_Value 79 rfl rfl (S.length + 1) (fun x => !x.rightB d) v.parts hv.one.parts (S ++ [.mem v.enc [] false,.mem [.int .i64 ((d + 1:Nat):Int)] [] false])
      fun x hx => F_value_right_1 d (by omega) x (S.length + 1) _ [] false (by simp) fun S' => ih (by omega) x (hv.all x hx) S'
    have hpos:(0:Int) < (d:Int) + 1:=by omega
    simp at h1 h2
    cases hp:v.plainB
    · rw [hp] at h1
      simp [r_value_right_0,Val.rightB,h1,hp,hpos]
    · rw [hp] at h1
      simp [r_value_right_0,Val.rightB,h1,h2,hp,hpos,evUn]
      rw [List.not_all_eq_any_not]
theorem F_value_Right (v:Val) (hv:v.Wf) (S:St):DF lib nk 31 [.agg v.enc] S=some (.bool (v.rightB 5),S):=by
  rw [run_value_Right,DC_of c_value_Right.eq_1]
  have h:=F_value_right 5 (by decide) v hv
  simp at h
  simp [h]
end Go.Proofs.YtekgdmhdkhgpjaaGreatDoor.am

set_option linter.unusedSimpArgs false
namespace Go.Proofs.YtekgdmhdkhgpjaaGreatDoor.am
open Go
mutual
def Val.depth:Val → Nat
  | .mk _ _ _ _ _ ps => Val.depths 1 ps
def Val.depths:Nat → List Val → Nat
  | n,[] => n
  | n,v :: r => Val.depths (if n < Val.depth v + 1 then Val.depth v + 1 else n) r
end
theorem Val.depth_eq (v:Val):v.depth=Val.depths 1 v.parts:=by cases v; simp [Val.depth,Val.parts]
theorem Val.depths_le:∀ (l:List Val) (n m:Nat),Val.depths n l ≤ m ↔ n ≤ m ∧ ∀ p ∈ l,p.depth + 1 ≤ m
  | [],n,m => by simp [Val.depths]
  | v :: r,n,m => by
    rw [Val.depths,Val.depths_le r]
    simp only [List.mem_cons,forall_eq_or_imp]
    constructor
    · rintro ⟨a,b⟩
      refine ⟨?_,?_,b⟩ <;> (split at a <;> omega)
    · rintro ⟨a,c,b⟩
      refine ⟨?_,b⟩
      split <;> omega
mutual
def Val.soundB:Val → Bool
  | .mk k n s ns is ps => (Val.mk k n s ns is ps).plainB && Val.soundBs ps
def Val.soundBs:List Val → Bool
  | [] => true
  | v :: r => Val.soundB v && Val.soundBs r
end
theorem Val.soundBs_eq:∀ l:List Val,Val.soundBs l=l.all Val.soundB
  | [] => by simp [Val.soundBs]
  | v :: r => by simp [Val.soundBs,Val.soundBs_eq r]
theorem Val.soundB_eq (v:Val):v.soundB=(v.plainB && v.parts.all Val.soundB):=by cases v; simp [Val.soundB,Val.parts,Val.soundBs_eq]
theorem Val.rightB_eq:∀ (d:Nat) (v:Val),v.rightB d=(decide (v.depth ≤ d) && v.soundB):=by
  intro d
  induction d with
  | zero =>
    intro v
    have:¬ v.depth ≤ 0:=by rw [Val.depth_eq,Val.depths_le]; omega
    simp only [Val.rightB]
    rw [show decide (v.depth ≤ 0)=false by simpa using this]
    rfl
  | succ d ih =>
    intro v
    rw [Val.rightB,Val.soundB_eq,Bool.eq_iff_iff]
    simp only [Bool.and_eq_true,List.all_eq_true,decide_eq_true_eq,ih]
    rw [Val.depth_eq,Val.depths_le]
    constructor
    · rintro ⟨a,b⟩
      exact ⟨⟨by omega,fun p hp => by have:=(b p hp).1; omega⟩,a,fun p hp => (b p hp).2⟩
    · rintro ⟨⟨_,a⟩,b,c⟩
      exact ⟨b,fun p hp => ⟨by have:=a p hp; omega,c p hp⟩⟩
theorem L_dioptreref08_Depth (v:Val) (hl:v.parts.length < 9223372036854775808) (B:Nat) (hB:B < 1000000) (S:St) (hF:∀ x ∈ v.parts,x.depth < B ∧ ∀ S,DF lib nk 27 [.agg x.enc] S=some (.int .i64 (x.depth:Nat),S)) (nb:Nat):∀ d i (n:Nat),i + d=v.parts.length →
    DC lib nk (.loop l_dioptreref08_Depth_0) ⟨[(1,.ptr S.length 0),(3,.int .i64 n),(4,.int .i64 (i:Nat))],[],nb⟩ (S ++ [.mem v.enc [] false])=some (.exit 0,⟨[(3,.int .i64 (Val.depths n (v.parts.drop i):Nat))],[],nb⟩,S ++ [.mem v.enc [] false]):=by
  intro d
  induction d with
  | zero =>
    intro i n hi
    rw [DC_loop',DC_of l_dioptreref08_Depth_0.eq_1]
    have h5:¬ i < v.parts.length:=by omega
    have h6:v.parts.drop i=[]:=List.drop_eq_nil_of_le (by omega)
    simp [h5,h6,Val.depths]
  | succ d ih =>
    intro i n hi
    have h3:i < v.parts.length:=by omega
    rw [DC_loop',DC_of l_dioptreref08_Depth_0.eq_1]
    obtain ⟨y,hy,hy'⟩:=get_of_lt' (l:=v.parts) (i:=i) (by omega)
    rw [drop_get hy]
    obtain ⟨hb,hc⟩:=hF y (List.mem_of_getElem? hy)
    have hc:=hc (S ++ [.mem v.enc [] false])
    have hw:=wrap_succ (i:=i) (by omega)
    have hw2:IntKind.wrap .i64 ((y.depth:Int) + 1)=((y.depth + 1:Nat):Int):=by rw [wrap_i64 _ (by omega) (by omega)]; omega
    rw [Val.depths]
    by_cases hlt:n < y.depth + 1
    · have hn:=ih (i + 1) (y.depth + 1) (by omega)
      have hlt':(n:Int) < (y.depth:Int) + 1:=by omega
      simp at hn hw hw2
      simp [h3,hy,hy',hc,hw2,hlt,hlt']
      rw [DC_keep_of l_dioptreref08_Depth_0.eq_1]
      simp [hw,hn]
    · have hn:=ih (i + 1) n (by omega)
      have hlt':¬ (n:Int) < (y.depth:Int) + 1:=by omega
      simp at hn hw hw2
      simp [h3,hy,hy',hc,hw2,hlt,hlt']
      rw [DC_keep_of l_dioptreref08_Depth_0.eq_1]
      simp [hw,hn]
theorem F_dioptreref08_Depth (v:Val):v.Wf → v.depth < 1000000 → ∀ S:St,DF lib nk 27 [.agg v.enc] S=some (.int .i64 (v.depth:Nat),S):=by
  induction v using Val.ind with
  | h v ih =>
    intro hv hd S
    rw [run_dioptreref08_Depth,DC_of c_dioptreref08_Depth.eq_1]
    have hle:Val.depths 1 v.parts ≤ v.depth:=by rw [Val.depth_eq]; exact Nat.le_refl _
    have hp:=((Val.depths_le v.parts 1 v.depth).1 hle).2
    have h:=L_dioptreref08_Depth v hv.one.parts v.depth hd S (fun x hx => ⟨by have:=hp x hx; omega,fun S' => ih x hx (hv.all x hx) (by have:=hp x hx; omega) S'⟩) S.length v.parts.length 0 1 (by omega)
    simp only [List.drop_zero,← Val.depth_eq] at h
    simp at h
    simp
    rw [DC_keep_of l_dioptreref08_Depth_0.eq_1]
    simp [h]
def Val.bad0 (v:Val):Bool:=decide (v.kind < 1) || (decide (6 < v.kind) || ((!decide (v.kind=1) && !decide (v.kind=2) && !decide (v.n=0)) || ((!decide (v.kind=3) && !decide (v.kind=4) && !v.s.isEmpty) || ((!decide (v.kind=5) && !v.names.isEmpty) || (!decide (v.kind=6) && !v.ids.isEmpty)))))
def Val.bad1 (v:Val):Bool:=(decide (v.kind=1) && !decide (v.n=0) && !decide (v.n=1)) || ((decide (v.kind=3) && decide (64 < v.s.length)) || ((decide (v.kind=4) && !nameB v.s) || (decide (8 < v.names.length) || (decide (12 < v.ids.length) || !decide (v.parts.length=v.names.length + v.ids.length)))))
theorem Val.plainB_bad (v:Val):v.plainB=(!v.bad0 && !v.bad1 && goN none v.names && goI [] v.ids):=by
  unfold Val.plainB Val.bad0 Val.bad1 Val.bare
  by_cases a:v.kind < 1
  · have k1:¬ v.kind=1:=by omega
    have k2:¬ v.kind=2:=by omega
    have k3:¬ v.kind=3:=by omega
    have k4:¬ v.kind=4:=by omega
    have k5:¬ v.kind=5:=by omega
    have k6:¬ v.kind=6:=by omega
    simp [k1,k2,k3,k4,k5,k6,a]
  by_cases b:6 < v.kind
  · have k1:¬ v.kind=1:=by omega
    have k2:¬ v.kind=2:=by omega
    have k3:¬ v.kind=3:=by omega
    have k4:¬ v.kind=4:=by omega
    have k5:¬ v.kind=5:=by omega
    have k6:¬ v.kind=6:=by omega
    simp [k1,k2,k3,k4,k5,k6,b]
  have hk:v.kind=1 ∨ v.kind=2 ∨ v.kind=3 ∨ v.kind=4 ∨ v.kind=5 ∨ v.kind=6:=by omega
  have e8:∀ n m:Nat,(!decide (n < m))=decide (m ≤ n):=fun n m => by rw [Bool.eq_iff_iff]; simp
  rcases hk with h | h | h | h | h | h <;> rcases h2:v.s with _ | ⟨s0,sr⟩ <;> rcases h3:v.names with _ | ⟨n0,nr⟩ <;> rcases h4:v.ids with _ | ⟨i0,ir⟩ <;> by_cases c1:v.n=0 <;> by_cases c2:v.n=1 <;>
    (first | omega | (rcases h5:v.parts with _ | ⟨p0,pr⟩ <;> simp [h,c1,c2,goN,goI,e8] <;> (try rw [Bool.eq_iff_iff]) <;> (try simp) <;> (try omega) <;> grind))
section
variable (v:Val) (S:St) (sl:KE) (tips:List (Option Nat)) (nb:Nat) (k:KC)
set_option maxHeartbeats 2000000 in
theorem RL_dioptreref08_sound_0 (h1:KE.get sl 1=.ptr S.length 0) (h3:KE.get sl 3=.int .i64 v.kind):seqC lib nk (.keep [1,3,61] k) (regC (evKs (viaK nk (DF lib nk)) r_dioptreref08_sound_0 ⟨sl,tips,nb⟩ (S ++ [.mem v.enc [] false])))=DC lib nk k ⟨[(1,.ptr S.length 0),(3,.int .i64 v.kind),(61,.bool v.bad0)],tips,nb⟩ (S ++ [.mem v.enc [] false]):=by
  unfold r_dioptreref08_sound_0 Val.bad0
  by_cases a:v.kind < 1
  · simp [h1,h3,a]
  by_cases b:6 < v.kind
  · simp [h1,h3,a,b]
  have hk:v.kind=1 ∨ v.kind=2 ∨ v.kind=3 ∨ v.kind=4 ∨ v.kind=5 ∨ v.kind=6:=by omega
  rcases hk with h | h | h | h | h | h <;> by_cases c1:v.n=0 <;> rcases h2:v.s with _ | ⟨s0,sr⟩ <;> rcases h4:v.names with _ | ⟨n0,nr⟩ <;> rcases h5:v.ids with _ | ⟨i0,ir⟩ <;> simp [h1,h3,h,c1,h2,h4,h5] <;> omega
set_option maxHeartbeats 2000000 in
theorem RL_dioptreref08_sound_1 (hs:v.s.length < 9223372036854775808) (h1:KE.get sl 1=.ptr S.length 0) (h3:KE.get sl 3=.int .i64 v.kind):seqC lib nk (.keep [1,118] k) (regC (evKs (viaK nk (DF lib nk)) r_dioptreref08_sound_1 ⟨sl,tips,nb⟩ (S ++ [.mem v.enc [] false])))=DC lib nk k ⟨[(1,.ptr S.length 0),(118,.bool v.bad1)],tips,nb⟩ (S ++ [.mem v.enc [] false]):=by
  unfold r_dioptreref08_sound_1 Val.bad1
  have hN:=F_dioptreref08_Name v.s hs (S ++ [.mem v.enc [] false])
  have e8:((8:Int) < v.names.length)=(8 < v.names.length):=by simp only [eq_iff_iff]; omega
  have e12:((12:Int) < v.ids.length)=(12 < v.ids.length):=by simp only [eq_iff_iff]; omega
  have e64:((64:Int) < v.s.length)=(64 < v.s.length):=by simp only [eq_iff_iff]; omega
  have hk:v.kind=1 ∨ v.kind=3 ∨ v.kind=4 ∨ (v.kind ≠ 1 ∧ v.kind ≠ 3 ∧ v.kind ≠ 4):=by omega
  have tail:∀ (c5:¬ 8 < v.names.length) (c6:¬ 12 < v.ids.length),IntKind.wrap .i64 ((v.names.length:Int) + v.ids.length)=((v.names.length + v.ids.length:Nat):Int):=fun c5 c6 => by rw [wrap_i64 _ (by omega) (by omega)]; omega
  have fin:∀ P:Prop,(8 < v.names.length → P) → (¬ 8 < v.names.length → 12 < v.ids.length → P) → (∀ (c5:¬ 8 < v.names.length) (c6:¬ 12 < v.ids.length),v.parts.length=v.names.length + v.ids.length → P) → (∀ (c5:¬ 8 < v.names.length) (c6:¬ 12 < v.ids.length),¬ v.parts.length=v.names.length + v.ids.length → P) → P:=by
    intro P p1 p2 p3 p4
    by_cases c5:8 < v.names.length
    · exact p1 c5
    by_cases c6:12 < v.ids.length
    · exact p2 c5 c6
    by_cases c7:v.parts.length=v.names.length + v.ids.length
    · exact p3 c5 c6 c7
    · exact p4 c5 c6 c7
  have cp:∀ c7:¬ v.parts.length=v.names.length + v.ids.length,¬ (v.parts.length:Int)=(v.names.length:Int) + v.ids.length:=fun c7 e => c7 (by omega)
  have cq:∀ c7:v.parts.length=v.names.length + v.ids.length,(v.parts.length:Int)=(v.names.length:Int) + v.ids.length:=fun c7 => by omega
  rcases hk with h | h | h | ⟨k1,k3,k4⟩
  · by_cases n0:v.n=0
    · refine fin _ (fun c5 => ?_) (fun c5 c6 => ?_) (fun c5 c6 c7 => ?_) (fun c5 c6 c7 => ?_)
      · simp [h1,h3,e8,e12,e64,c5,h,n0,evUn]
      · simp [h1,h3,e8,e12,e64,c5,c6,h,n0,evUn]
      · have w:=tail c5 c6; have c8:=cq c7; simp at w; simp [h1,h3,e8,e12,e64,c5,c6,c7,c8,w,h,n0,evUn]
      · have w:=tail c5 c6; have c8:=cp c7; simp at w; simp [h1,h3,e8,e12,e64,c5,c6,c7,c8,w,h,n0,evUn]
    by_cases n1:v.n=1
    · refine fin _ (fun c5 => ?_) (fun c5 c6 => ?_) (fun c5 c6 c7 => ?_) (fun c5 c6 c7 => ?_)
      · simp [h1,h3,e8,e12,e64,c5,h,n0,n1,evUn]
      · simp [h1,h3,e8,e12,e64,c5,c6,h,n0,n1,evUn]
      · have w:=tail c5 c6; have c8:=cq c7; simp at w; simp [h1,h3,e8,e12,e64,c5,c6,c7,c8,w,h,n0,n1,evUn]
      · have w:=tail c5 c6; have c8:=cp c7; simp at w; simp [h1,h3,e8,e12,e64,c5,c6,c7,c8,w,h,n0,n1,evUn]
    · simp [h1,h3,h,n0,n1]
  · by_cases c:64 < v.s.length
    · simp [h1,h3,h,e64,c]
    · refine fin _ (fun c5 => ?_) (fun c5 c6 => ?_) (fun c5 c6 c7 => ?_) (fun c5 c6 c7 => ?_)
      · simp [h1,h3,e8,e12,e64,c5,h,c,evUn]
      · simp [h1,h3,e8,e12,e64,c5,c6,h,c,evUn]
      · have w:=tail c5 c6; have c8:=cq c7; simp at w; simp [h1,h3,e8,e12,e64,c5,c6,c7,c8,w,h,c,evUn]
      · have w:=tail c5 c6; have c8:=cp c7; simp at w; simp [h1,h3,e8,e12,e64,c5,c6,c7,c8,w,h,c,evUn]
  · cases c:nameB v.s
    · rw [c] at hN
      simp [h1,h3,h,hN,c,evUn]
    · rw [c] at hN
      refine fin _ (fun c5 => ?_) (fun c5 c6 => ?_) (fun c5 c6 c7 => ?_) (fun c5 c6 c7 => ?_)
      · simp [h1,h3,e8,e12,e64,c5,h,hN,c,evUn]
      · simp [h1,h3,e8,e12,e64,c5,c6,h,hN,c,evUn]
      · have w:=tail c5 c6; have c8:=cq c7; simp at w; simp [h1,h3,e8,e12,e64,c5,c6,c7,c8,w,h,hN,c,evUn]
      · have w:=tail c5 c6; have c8:=cp c7; simp at w; simp [h1,h3,e8,e12,e64,c5,c6,c7,c8,w,h,hN,c,evUn]
  · refine fin _ (fun c5 => ?_) (fun c5 c6 => ?_) (fun c5 c6 c7 => ?_) (fun c5 c6 c7 => ?_)
    · simp [h1,h3,e8,e12,e64,c5,k1,k3,k4,evUn]
    · simp [h1,h3,e8,e12,e64,c5,c6,k1,k3,k4,evUn]
    · have w:=tail c5 c6; have c8:=cq c7; simp at w; simp [h1,h3,e8,e12,e64,c5,c6,c7,c8,w,k1,k3,k4,evUn]
    · have w:=tail c5 c6; have c8:=cp c7; simp at w; simp [h1,h3,e8,e12,e64,c5,c6,c7,c8,w,k1,k3,k4,evUn]
end
end Go.Proofs.YtekgdmhdkhgpjaaGreatDoor.am

set_option linter.unusedSimpArgs false
namespace Go.Proofs.YtekgdmhdkhgpjaaGreatDoor.am
open Go
theorem bl_neg (a b:List UInt8):(Op.bytesLess b a || decide (b=a))=!Op.bytesLess a b:=by
  have h:∀ x y,Op.bytesLess x y=bl x y:=by
    intro x
    induction x with
    | nil => intro y; cases y <;> rfl
    | cons c x ih =>
      intro y
      cases y with
      | nil => rfl
      | cons d y =>
        simp only [Op.bytesLess,bl,ih]
        by_cases e:c=d
        · subst e; simp [UInt8.lt_irrefl]
        · simp [e]
  rw [h,h]
  cases e:bl a b
  · by_cases hab:b=a
    · simp [hab]
    · have:=bl_total a b (fun h => hab h.symm) e
      simp [this]
  · have h1:=bl_asymm e
    have h2:b ≠ a:=fun h => by subst h; rw [bl_irrefl] at e; cases e
    simp [h1,h2]
section
variable (v:Val) (hv:v.Wf1)
include hv
theorem L_dioptreref08_sound_0 (nb:Nat) (S:St):∀ d i,i + d=v.names.length →
    DC lib nk (.loop l_dioptreref08_sound_0) ⟨[(1,.ptr S.length 0),(4,.int .i64 (i:Nat))],[],nb⟩ (S ++ [.mem v.enc [] false])=if goN (prevN v.names i) (v.names.drop i) then some (.exit 0,⟨[(1,.ptr S.length 0)],[],nb⟩,S ++ [.mem v.enc [] false]) else some (.ret,⟨[(2,.bool false)],[],nb⟩,S ++ [.mem v.enc [] false]):=by
  have hl:=hv.names
  intro d
  induction d with
  | zero =>
    intro i hi
    rw [DC_loop',DC_of l_dioptreref08_sound_0.eq_1]
    have h5:¬ i < v.names.length:=by omega
    have h6:v.names.drop i=[]:=List.drop_eq_nil_of_le (by omega)
    simp [h5,h6,goN]
  | succ d ih =>
    intro i hi
    have h3:i < v.names.length:=by omega
    rw [DC_loop',DC_of l_dioptreref08_sound_0.eq_1]
    obtain ⟨y,hy,hy'⟩:=get_of_lt' (l:=v.names) (i:=i) (by omega)
    rw [drop_get hy]
    have hr:=ih (i + 1) (by omega)
    rw [prevN_succ hy] at hr
    have hw:=wrap_succ (i:=i) (by omega)
    have hnm:=F_dioptreref08_Name y (hv.name y (List.mem_of_getElem? hy)) (S ++ [.mem v.enc [] false])
    simp at hr hw
    cases hx:nameB y
    · rw [hx] at hnm
      simp [r_dioptreref08_sound_2,h3,hy,hy',goN,hnm,hx,evUn]
    · rw [hx] at hnm
      rcases Nat.eq_zero_or_pos i with hz0 | hpos
      · have hp:prevN v.names i=none:=by simp [prevN,hz0]
        have hz1:¬ 0 < i:=by omega
        have hz2:¬ (0:Int) < i:=by omega
        simp [r_dioptreref08_sound_2,h3,hy,hy',goN,hnm,hx,evUn,hp,hz1,hz2]
        rw [DC_keep_of l_dioptreref08_sound_0.eq_1]
        simp [hw]
        exact hr
      · obtain ⟨z,hz,hz'⟩:=get_of_lt' (l:=v.names) (i:=i - 1) (by omega)
        have hp:prevN v.names i=some z:=by simp [prevN,hz]; omega
        have hw2:IntKind.wrap .i64 ((i:Int) - 1)=((i - 1:Nat):Int):=by rw [wrap_i64 _ (by omega) (by omega)]; omega
        have hpos':(0:Int) < i:=by omega
        have hb':=bl_neg z y
        cases hb:Op.bytesLess z y
        · rw [hb] at hb'
          simp at hb'
          simp [r_dioptreref08_sound_2,h3,hy,hy',goN,hnm,hx,evUn,hp,hpos,hpos',hw2,hz,hb,hb']
        · rw [hb] at hb'
          simp at hb'
          simp [r_dioptreref08_sound_2,h3,hy,hy',goN,hnm,hx,evUn,hp,hpos,hpos',hw2,hz,hb,hb']
          rw [DC_keep_of l_dioptreref08_sound_0.eq_1]
          simp [hw]
          exact hr
theorem L_dioptreref08_sound_1 (i:Nat) (y:Int) (hi:v.ids[i]?=some y) (nb:Nat) (S:St):∀ d j,j + d=i →
    DC lib nk (.loop l_dioptreref08_sound_1) ⟨[(1,.ptr S.length 0),(5,.int .i64 (i:Nat)),(6,.int .i64 (j:Nat))],[],nb⟩ (S ++ [.mem v.enc [] false])=if y ∈ (v.ids.take i).drop j then some (.ret,⟨[(2,.bool false)],[],nb⟩,S ++ [.mem v.enc [] false]) else some (.exit 4,⟨[(1,.ptr S.length 0),(5,.int .i64 (i:Nat))],[],nb⟩,S ++ [.mem v.enc [] false]):=by
  have hl:=hv.ids
  have hil:i < v.ids.length:=(List.getElem?_eq_some_iff.1 hi).1
  intro d
  induction d with
  | zero =>
    intro j hj
    rw [DC_loop',DC_of l_dioptreref08_sound_1.eq_1]
    have h5:¬ j < i:=by omega
    have h6:(v.ids.take i).drop j=[]:=List.drop_eq_nil_of_le (by simp; omega)
    simp [h5,h6]
  | succ d ih =>
    intro j hj
    have h3:j < i:=by omega
    rw [DC_loop',DC_of l_dioptreref08_sound_1.eq_1]
    obtain ⟨z,hz,hz'⟩:=get_of_lt' (l:=v.ids) (i:=j) (by omega)
    have hz2:(v.ids.take i)[j]?=some z:=by rw [List.getElem?_take_of_lt h3]; exact hz
    rw [drop_get hz2]
    have hr:=ih (j + 1) (by omega)
    have hw:=wrap_succ (i:=j) (by omega)
    simp at hr hw
    by_cases e:y=z
    · subst e
      simp [h3,hz,hz',hi]
    · have e':¬ z=y:=fun h => e h.symm
      simp [h3,hz,hz',hi,e,e']
      rw [DC_keep_of l_dioptreref08_sound_1.eq_1]
      simp [hw]
      exact hr
theorem L_dioptreref08_sound_2 (nb:Nat) (S:St):∀ d i,i + d=v.ids.length →
    DC lib nk (.loop l_dioptreref08_sound_2) ⟨[(1,.ptr S.length 0),(5,.int .i64 (i:Nat))],[],nb⟩ (S ++ [.mem v.enc [] false])=if goI (v.ids.take i) (v.ids.drop i) then some (.exit 2,⟨[(1,.ptr S.length 0)],[],nb⟩,S ++ [.mem v.enc [] false]) else some (.ret,⟨[(2,.bool false)],[],nb⟩,S ++ [.mem v.enc [] false]):=by
  have hl:=hv.ids
  intro d
  induction d with
  | zero =>
    intro i hi
    rw [DC_loop',DC_of l_dioptreref08_sound_2.eq_1]
    have h5:¬ i < v.ids.length:=by omega
    have h6:v.ids.drop i=[]:=List.drop_eq_nil_of_le (by omega)
    simp [h5,h6,goI]
  | succ d ih =>
    intro i hi
    have h3:i < v.ids.length:=by omega
    rw [DC_loop',DC_of l_dioptreref08_sound_2.eq_1]
    obtain ⟨y,hy,hy'⟩:=get_of_lt' (l:=v.ids) (i:=i) (by omega)
    rw [drop_get hy]
    have hr:=ih (i + 1) (by omega)
    have hw:=wrap_succ (i:=i) (by omega)
    have ht:v.ids.take (i + 1)=v.ids.take i ++ [y]:=by rw [List.take_add_one,hy]; rfl
    rw [ht] at hr
    have hin:=L_dioptreref08_sound_1 v hv i y hy nb S i 0 (by omega)
    simp only [List.drop_zero] at hin
    simp at hr hw hin
    simp [h3]
    rw [DC_keep_of l_dioptreref08_sound_1.eq_1]
    by_cases hx:y ∈ v.ids.take i
    · simp [hx] at hin
      simp [hin,goI,hx]
    · simp [hx] at hin
      by_cases e:y=0
      · subst e
        simp [hin,goI,hy,hy']
      · simp [hin,goI,hx,e,hy,hy']
        rw [DC_keep_of l_dioptreref08_sound_2.eq_1]
        simp [hw]
        exact hr
theorem L_dioptreref08_sound_3 (S:St) (hF:∀ x ∈ v.parts,∀ S,DF lib nk 28 [.agg x.enc] S=some (.bool x.soundB,S)) (nb:Nat):∀ d i,i + d=v.parts.length →
    DC lib nk (.loop l_dioptreref08_sound_3) ⟨[(1,.ptr S.length 0),(7,.int .i64 (i:Nat))],[],nb⟩ (S ++ [.mem v.enc [] false])=if (v.parts.drop i).all Val.soundB then some (.exit 6,⟨[],[],nb⟩,S ++ [.mem v.enc [] false]) else some (.ret,⟨[(2,.bool false)],[],nb⟩,S ++ [.mem v.enc [] false]):=by
  have hl:=hv.parts
  intro d
  induction d with
  | zero =>
    intro i hi
    rw [DC_loop',DC_of l_dioptreref08_sound_3.eq_1]
    have h5:¬ i < v.parts.length:=by omega
    have h6:v.parts.drop i=[]:=List.drop_eq_nil_of_le (by omega)
    simp [h5,h6]
  | succ d ih =>
    intro i hi
    have h3:i < v.parts.length:=by omega
    rw [DC_loop',DC_of l_dioptreref08_sound_3.eq_1]
    obtain ⟨y,hy,hy'⟩:=get_of_lt' (l:=v.parts) (i:=i) (by omega)
    rw [drop_get hy]
    have hr:=ih (i + 1) (by omega)
    have hw:=wrap_succ (i:=i) (by omega)
    have hc:=hF y (List.mem_of_getElem? hy) (S ++ [.mem v.enc [] false])
    simp only [List.all_cons]
    rcases Bool.eq_false_or_eq_true y.soundB with hx | hx
    rotate_left
    · rw [hx] at hc
      simp [h3,hy,hy',hc,hx,evUn]
    · rw [hx] at hc
      simp [h3,hy,hy',hc,hx,evUn]
      rw [DC_keep_of l_dioptreref08_sound_3.eq_1]
      simp at hw hr
      simp [hw]
      exact hr
end
theorem F_dioptreref08_sound (v:Val):v.Wf → ∀ S:St,DF lib nk 28 [.agg v.enc] S=some (.bool v.soundB,S):=by
  induction v using Val.ind with
  | h v ih =>
    intro hv S
    rw [run_dioptreref08_sound,DC_of c_dioptreref08_sound.eq_1,Val.soundB_eq,Val.plainB_bad]
    have h0:=L_dioptreref08_sound_0 v hv.one S.length S v.names.length 0 (by omega)
    have h2:=L_dioptreref08_sound_2 v hv.one S.length S v.ids.length 0 (by omega)
    have h3:=L_dioptreref08_sound_3 v hv.one S (fun x hx S' => ih x hx (hv.all x hx) S') S.length v.parts.length 0 (by omega)
    simp only [List.drop_zero,List.take_zero,prevN,if_true] at h0 h2 h3
    have r0:=RL_dioptreref08_sound_0 v S
    have r1:=fun sl tips nb k => RL_dioptreref08_sound_1 v S sl tips nb k hv.one.s
    cases b0:v.bad0
    · cases b1:v.bad1
      · rw [b0] at r0
        simp [r0]
        simp only [b1] at r1
        simp [r1]
        rw [DC_keep_of l_dioptreref08_sound_0.eq_1]
        cases g0:goN none v.names
        · rw [g0] at h0
          simp at h0
          simp [h0]
        · rw [g0] at h0
          simp at h0
          simp [h0]
          rw [DC_keep_of l_dioptreref08_sound_2.eq_1]
          cases g2:goI [] v.ids
          · rw [g2] at h2
            simp at h2
            simp [h2]
          · rw [g2] at h2
            simp at h2
            simp [h2]
            rw [DC_keep_of l_dioptreref08_sound_3.eq_1]
            cases g3:v.parts.all Val.soundB
            · rw [g3] at h3
              simp at h3
              simp [h3]
            · rw [g3] at h3
              simp at h3
              simp [h3]
      · rw [b0] at r0
        simp [r0]
        simp only [b1] at r1
        simp [r1]
    · rw [b0] at r0
      simp [r0]
theorem F_dioptreref08_Right (v:Val) (hv:v.Wf) (hd:v.depth < 1000000) (S:St):DF lib nk 11 [.agg v.enc] S=some (.bool (v.rightB 5),S):=by
  rw [run_dioptreref08_Right,DC_of c_dioptreref08_Right.eq_1,Val.rightB_eq]
  have h1:=F_dioptreref08_Depth v hv hd (S ++ [.mem v.enc [] false])
  have h2:=F_dioptreref08_sound v hv (S ++ [.mem v.enc [] false])
  by_cases c:v.depth ≤ 5
  · have c':(v.depth:Int) ≤ 5:=by omega
    simp [h1,h2,c,c']
  · have c':¬ (v.depth:Int) ≤ 5:=by omega
    simp [h1,h2,c,c']
end Go.Proofs.YtekgdmhdkhgpjaaGreatDoor.am
