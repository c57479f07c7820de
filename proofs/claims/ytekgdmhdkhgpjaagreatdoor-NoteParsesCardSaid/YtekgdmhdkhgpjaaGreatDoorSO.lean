/- Several texts, one behind the other: NAw Aw2 Ap1 Ap2 Ap3 -/
import Derived.Test.YtekgdmhdkhgpjaaGreatDoorSG
import Derived.KernelRfl
import Derived.Test.YtekgdmhdkhgpjaaGreatDoorSM
import Derived.Test.YtekgdmhdkhgpjaaGreatDoorSN
set_option linter.unusedSimpArgs false
set_option linter.unusedVariables false
namespace Go.Proofs.YtekgdmhdkhgpjaaGreatDoor.am
open Go
theorem awake_run0:evKF lib nk 1000 9 [] []=some (.bool true,[]):=by kernel_rfl
end Go.Proofs.YtekgdmhdkhgpjaaGreatDoor.am

namespace Go.Proofs.YtekgdmhdkhgpjaaGreatDoor.am
open Go
theorem awake_run2:(fun a b => evKF lib nk 1000 9 [] [a,b])=fun a b => some (.bool true,[a,b]):=by kernel_rfl
end Go.Proofs.YtekgdmhdkhgpjaaGreatDoor.am

set_option linter.unusedSimpArgs false
set_option linter.unusedVariables false
namespace Go.Proofs.YtekgdmhdkhgpjaaGreatDoor.am
open Go
theorem eqF_same' {α:Type} (l m:List α):eqF same l m=same l m:=eqF_same fun _ _ _ _ => rfl
theorem same_len {α:Type} {l m:List α} (h:¬ m.length=l.length):same l m=false:=same_false.2 fun e => h (by rw [e])
@[simp] theorem same_str (a b:Str):same a b=decide (a=b):=same_eq a b
@[simp] theorem same_int (a b:Int):same a b=decide (a=b):=same_eq a b
theorem bool_ext {a b:Bool} (h:a=true ↔ b=true):a=b:=by cases a <;> cases b <;> simp_all
theorem Val.same_eq (a b:Val):same a b=(decide (a.kind=b.kind) && (decide (a.n=b.n) && (decide (a.s=b.s) && (same a.names b.names && (same a.ids b.ids && same a.parts b.parts))))):=by
  apply bool_ext
  simp only [Bool.and_eq_true,decide_eq_true_eq,same_iff]
  cases a; cases b
  simp only [Val.mk.injEq]
  exact Iff.rfl
theorem L_dioptreref08_Samea (a b:Val) (S:St) (n:Nat) (hl:(a.names).length=n) (hm:(b.names).length=n) (hb:n < 9223372036854775808):∀ d i,i + d=n →
    DC lib nk (.loop l_dioptreref08_Same_0) ⟨[(2,.ptr S.length 0),(3,.ptr (S.length + 1) 0),(5,.int .i64 (i:Nat))],[],S.length⟩ (S ++ [.mem a.enc [] false,.mem b.enc [] false])=if eqF (same:Str → Str → Bool) ((a.names).drop i) ((b.names).drop i)=true then some (.exit 0,⟨[(2,.ptr S.length 0),(3,.ptr (S.length + 1) 0)],[],S.length⟩,S ++ [.mem a.enc [] false,.mem b.enc [] false]) else some (.ret,⟨[(4,.bool false)],[],S.length⟩,S ++ [.mem a.enc [] false,.mem b.enc [] false]):=by
  intro d
  induction d with
  | zero =>
    intro i hi
    rw [DC_loop',DC_of l_dioptreref08_Same_0.eq_1]
    have h3:(a.names).drop i=[]:=List.drop_eq_nil_of_le (by omega)
    have h4:(b.names).drop i=[]:=List.drop_eq_nil_of_le (by omega)
    have h5:¬ i < n:=by omega
    simp [h3,h4,h5,eqF,hl,hm]
  | succ d ih =>
    intro i hi
    have h3:i < n:=by omega
    rw [DC_loop',DC_of l_dioptreref08_Same_0.eq_1]
    obtain ⟨x,hx,hx'⟩:=get_of_lt' (l:=a.names) (i:=i) (by omega)
    obtain ⟨y,hy,hy'⟩:=get_of_lt' (l:=b.names) (i:=i) (by omega)
    rw [drop_get hx,drop_get hy]
    have hn:=ih (i + 1) (by omega)
    have hw:=wrap_succ (i:=i) (by omega)
    simp at hn hw
    cases he:((same:Str → Str → Bool)) x y
    · (try simp at he)
      simp [h3,hx,hy,hx',hy',he,eqF,evUn,hl,hm]
    · (try simp at he)
      simp [h3,hx,hy,hx',hy',he,eqF,evUn,hl,hm]
      rw [DC_keep_of l_dioptreref08_Same_0.eq_1]
      simp [hw,hn]
theorem L_dioptreref08_Sameb (a b:Val) (S:St) (n:Nat) (hl:(a.ids).length=n) (hm:(b.ids).length=n) (hb:n < 9223372036854775808):∀ d i,i + d=n →
    DC lib nk (.loop l_dioptreref08_Same_1) ⟨[(2,.ptr S.length 0),(3,.ptr (S.length + 1) 0),(6,.int .i64 (i:Nat))],[],S.length⟩ (S ++ [.mem a.enc [] false,.mem b.enc [] false])=if eqF (same:Int → Int → Bool) ((a.ids).drop i) ((b.ids).drop i)=true then some (.exit 2,⟨[(2,.ptr S.length 0),(3,.ptr (S.length + 1) 0)],[],S.length⟩,S ++ [.mem a.enc [] false,.mem b.enc [] false]) else some (.ret,⟨[(4,.bool false)],[],S.length⟩,S ++ [.mem a.enc [] false,.mem b.enc [] false]):=by
  intro d
  induction d with
  | zero =>
    intro i hi
    rw [DC_loop',DC_of l_dioptreref08_Same_1.eq_1]
    have h3:(a.ids).drop i=[]:=List.drop_eq_nil_of_le (by omega)
    have h4:(b.ids).drop i=[]:=List.drop_eq_nil_of_le (by omega)
    have h5:¬ i < n:=by omega
    simp [h3,h4,h5,eqF,hl,hm]
  | succ d ih =>
    intro i hi
    have h3:i < n:=by omega
    rw [DC_loop',DC_of l_dioptreref08_Same_1.eq_1]
    obtain ⟨x,hx,hx'⟩:=get_of_lt' (l:=a.ids) (i:=i) (by omega)
    obtain ⟨y,hy,hy'⟩:=get_of_lt' (l:=b.ids) (i:=i) (by omega)
    rw [drop_get hx,drop_get hy]
    have hn:=ih (i + 1) (by omega)
    have hw:=wrap_succ (i:=i) (by omega)
    simp at hn hw
    cases he:((same:Int → Int → Bool)) x y
    · (try simp at he)
      simp [h3,hx,hy,hx',hy',he,eqF,evUn,hl,hm]
    · (try simp at he)
      simp [h3,hx,hy,hx',hy',he,eqF,evUn,hl,hm]
      rw [DC_keep_of l_dioptreref08_Same_1.eq_1]
      simp [hw,hn]
theorem L_dioptreref08_Samec (a b:Val) (hF:∀ x ∈ a.parts,∀ y ∈ b.parts,∀ S,DF lib nk 18 [.agg x.enc,.agg y.enc] S=some (.bool (same x y),S)) (S:St) (n:Nat) (hl:(a.parts).length=n) (hm:(b.parts).length=n) (hb:n < 9223372036854775808):∀ d i,i + d=n →
    DC lib nk (.loop l_dioptreref08_Same_2) ⟨[(2,.ptr S.length 0),(3,.ptr (S.length + 1) 0),(7,.int .i64 (i:Nat))],[],S.length⟩ (S ++ [.mem a.enc [] false,.mem b.enc [] false])=if eqF (same:Val → Val → Bool) ((a.parts).drop i) ((b.parts).drop i)=true then some (.exit 4,⟨[],[],S.length⟩,S ++ [.mem a.enc [] false,.mem b.enc [] false]) else some (.ret,⟨[(4,.bool false)],[],S.length⟩,S ++ [.mem a.enc [] false,.mem b.enc [] false]):=by
  intro d
  induction d with
  | zero =>
    intro i hi
    rw [DC_loop',DC_of l_dioptreref08_Same_2.eq_1]
    have h3:(a.parts).drop i=[]:=List.drop_eq_nil_of_le (by omega)
    have h4:(b.parts).drop i=[]:=List.drop_eq_nil_of_le (by omega)
    have h5:¬ i < n:=by omega
    simp [h3,h4,h5,eqF,hl,hm]
  | succ d ih =>
    intro i hi
    have h3:i < n:=by omega
    rw [DC_loop',DC_of l_dioptreref08_Same_2.eq_1]
    obtain ⟨x,hx,hx'⟩:=get_of_lt' (l:=a.parts) (i:=i) (by omega)
    obtain ⟨y,hy,hy'⟩:=get_of_lt' (l:=b.parts) (i:=i) (by omega)
    rw [drop_get hx,drop_get hy]
    have hn:=ih (i + 1) (by omega)
    have hw:=wrap_succ (i:=i) (by omega)
    have hf:=hF x (List.mem_of_getElem? hx) y (List.mem_of_getElem? hy)
    simp at hn hw
    cases he:((same:Val → Val → Bool)) x y
    · (try simp at he)
      simp [h3,hx,hy,hx',hy',he,eqF,evUn,hl,hm,hf]
    · (try simp at he)
      simp [h3,hx,hy,hx',hy',he,eqF,evUn,hl,hm,hf]
      rw [DC_keep_of l_dioptreref08_Same_2.eq_1]
      simp [hw,hn]
theorem F_dioptreref08_Same (a:Val):∀ (b:Val),a.Wf → b.Wf → ∀ S,DF lib nk 18 [.agg a.enc,.agg b.enc] S=some (.bool (same a b),S):=by
  induction a using Val.ind with
  | h a ih =>
    intro b ha hb S
    rw [run_dioptreref08_Same,DC_of c_dioptreref08_Same.eq_1,Val.same_eq]
    by_cases c0:a.kind=b.kind
    rotate_left
    · simp [r_dioptreref08_Same_0,c0]
    by_cases c1:a.n=b.n
    rotate_left
    · simp [r_dioptreref08_Same_0,c0,c1]
    by_cases c2:a.s=b.s
    rotate_left
    · simp [r_dioptreref08_Same_0,c0,c1,c2]
    by_cases c3:b.names.length=a.names.length
    rotate_left
    · have c3':¬ a.names.length=b.names.length:=fun e => c3 e.symm
      simp [r_dioptreref08_Same_0,c0,c1,c2,c3',same_len c3]
    by_cases c4:b.ids.length=a.ids.length
    rotate_left
    · have c4':¬ a.ids.length=b.ids.length:=fun e => c4 e.symm
      simp [r_dioptreref08_Same_0,c0,c1,c2,c3,c4',same_len c4]
    by_cases c5:b.parts.length=a.parts.length
    rotate_left
    · have c5':¬ a.parts.length=b.parts.length:=fun e => c5 e.symm
      simp [r_dioptreref08_Same_0,c0,c1,c2,c3,c4,c5',same_len c5]
    have h1:=L_dioptreref08_Samea a b S a.names.length rfl c3 ha.one.names a.names.length 0 (by omega)
    have h2:=L_dioptreref08_Sameb a b S a.ids.length rfl c4 ha.one.ids a.ids.length 0 (by omega)
    have h3:=L_dioptreref08_Samec a b (fun x hx y hy S => ih x hx y (ha.all x hx) (hb.all y hy) S) S a.parts.length rfl c5 ha.one.parts a.parts.length 0 (by omega)
    simp [eqF_same'] at h1 h2 h3
    simp [r_dioptreref08_Same_0,c0,c1,c2,c3,c4,c5]
    rw [DC_keep_of l_dioptreref08_Same_0.eq_1]
    simp [h1]
    cases e0:same a.names b.names
    · simp [e0]
    simp [e0]
    rw [DC_keep_of l_dioptreref08_Same_1.eq_1]
    simp [h2]
    cases e1:same a.ids b.ids
    · simp [e1]
    simp [e1]
    rw [DC_keep_of l_dioptreref08_Same_2.eq_1]
    simp [h3]
    cases e2:same a.parts b.parts <;> simp [e2]
end Go.Proofs.YtekgdmhdkhgpjaaGreatDoor.am

set_option linter.unusedSimpArgs false
set_option linter.unusedVariables false
namespace Go.Proofs.YtekgdmhdkhgpjaaGreatDoor.am
open Go
def isStop (b:UInt8):Bool:=decide (b=44) || (decide (b=125) || decide (b=93))
def Term (r:Str):Prop:=∀ b,r.head?=some b → isStop b=true
theorem span_inj {p:UInt8 → Bool}:∀ {a b r r':Str},(∀ x ∈ a,p x=false) → (∀ x ∈ b,p x=false) → (∀ x,r.head?=some x → p x=true) → (∀ x,r'.head?=some x → p x=true) → a ++ r=b ++ r' → a=b ∧ r=r'
  | [],[],r,r',_,_,_,_,h => ⟨rfl,h⟩
  | [],y :: b,r,r',_,hb,hr,_,h => by
    have h1:=hr y (by simp at h; rw [h]; rfl)
    rw [hb y (by simp)] at h1; cases h1
  | x :: a,[],r,r',ha,_,_,hr,h => by
    have h1:=hr x (by simp at h; rw [← h]; rfl)
    rw [ha x (by simp)] at h1; cases h1
  | x :: a,y :: b,r,r',ha,hb,hr,hr',h => by
    simp only [List.cons_append,List.cons.injEq] at h
    have h2:=span_inj (fun z hz => ha z (by simp [hz])) (fun z hz => hb z (by simp [hz])) hr hr' h.2
    exact ⟨by rw [h.1,h2.1],h2.2⟩
theorem digB_nat (n:Nat) (h:n < 10):(digB n).toNat=48 + n:=by
  unfold digB
  rw [UInt8.toNat_ofNat']
  omega
theorem dec_digit (n:Nat):∀ x ∈ dec n,48 ≤ x.toNat ∧ x.toNat ≤ 57:=by
  induction n using Nat.strongRecOn with
  | _ n ih =>
    intro x hx
    rw [dec] at hx
    split at hx
    · simp at hx
      subst hx
      rw [digB_nat n (by assumption)]; omega
    · rename_i h
      rcases List.mem_append.1 hx with e | e
      · exact ih (n / 10) (by omega) x e
      · simp at e
        subst e
        rw [digB_nat _ (by omega)]; omega
def valD (s:Str):Nat:=s.foldl (fun n b => 10 * n + (b.toNat - 48)) 0
theorem valD_snoc (s:Str) (b:UInt8):valD (s ++ [b])=10 * valD s + (b.toNat - 48):=by simp [valD]
theorem valD_dec (n:Nat):valD (dec n)=n:=by
  induction n using Nat.strongRecOn with
  | _ n ih =>
    rw [dec]
    split
    · rename_i h
      simp [valD,digB_nat n h]
    · rename_i h
      rw [valD_snoc,ih (n / 10) (by omega),digB_nat _ (by omega)]
      omega
theorem dec_cons (n:Nat):∃ b t,dec n=b :: t ∧ 48 ≤ b.toNat ∧ b.toNat ≤ 57:=by
  have h:=dec_pos n
  cases e:dec n with
  | nil => rw [e] at h; simp at h
  | cons b t => exact ⟨b,t,rfl,dec_digit n b (by rw [e]; simp)⟩
theorem decI_chars (n:Int):∀ x ∈ decI n,x=45 ∨ (48 ≤ x.toNat ∧ x.toNat ≤ 57):=by
  intro x hx
  unfold decI at hx
  split at hx
  · rcases List.mem_cons.1 hx with e | e
    · exact .inl e
    · exact .inr (dec_digit _ x e)
  · exact .inr (dec_digit _ x hx)
theorem nameB_chars {s:Str} (h:nameB s=true):∀ x ∈ s,nameR x.toNat=true:=by
  unfold nameB nameAll at h
  simp only [Bool.and_eq_true,List.all_eq_true] at h
  exact h.1.1
theorem nameR_not {x:UInt8} (h:nameR x.toNat=true):x ≠ 44 ∧ x ≠ 125 ∧ x ≠ 93 ∧ x ≠ 61 ∧ x ≠ 58:=by
  refine ⟨?_,?_,?_,?_,?_⟩ <;> (intro e; subst e; revert h; decide)
theorem stop_not {x:UInt8} (h:x ≠ 44 ∧ x ≠ 125 ∧ x ≠ 93):isStop x=false:=by simp [isStop,h]
theorem dig_not {x:UInt8} (h:48 ≤ x.toNat ∧ x.toNat ≤ 57):x ≠ 44 ∧ x ≠ 125 ∧ x ≠ 93 ∧ x ≠ 61 ∧ x ≠ 58 ∧ x ≠ 45:=by
  refine ⟨?_,?_,?_,?_,?_,?_⟩ <;> (intro e; subst e; revert h; decide)
def tl {α:Type} (k:α → Str) (mark:UInt8):List α → List Val → Str
  | x :: xs,p :: ps => 44 :: (k x ++ mark :: (p.text ++ tl k mark xs ps))
  | _,_ => []
theorem joinL_tl:∀ (x:Str) (xs:List Str),joinL [44] (x :: xs)=x ++ xs.flatMap fun y => 44 :: y
  | x,[] => by simp [joinL]
  | x,y :: r => by
    rw [joinL]
    · rw [joinL_tl y r]; simp
    · simp
theorem tl_items {α:Type} (k:α → Str) (mark:UInt8):∀ (xs:List α) (ps:List Val),(List.zipWith (fun n t => k n ++ (mark :: t)) xs (ps.map Val.text)).flatMap (fun y => 44 :: y)=tl k mark xs ps
  | [],_ => by simp [tl]
  | x :: xs,[] => by simp [tl]
  | x :: xs,p :: ps => by simp [tl,tl_items k mark xs ps]
def bodyT {α:Type} (k:α → Str) (mark:UInt8):List α → List Val → Str
  | x :: xs,p :: ps => k x ++ mark :: (p.text ++ tl k mark xs ps)
  | _,_ => []
theorem body_items {α:Type} (k:α → Str) (mark:UInt8) (xs:List α) (ps:List Val):joinL [44] (List.zipWith (fun n t => k n ++ (mark :: t)) xs (ps.map Val.text))=bodyT k mark xs ps:=by
  cases xs with
  | nil => simp [bodyT,joinL]
  | cons x xs =>
    cases ps with
    | nil => simp [bodyT,joinL]
    | cons p ps =>
      simp only [List.map_cons,List.zipWith_cons_cons,joinL_tl,tl_items,bodyT]
      simp
def cls (b:UInt8):Int:=if b=116 ∨ b=102 then 1 else if b=34 then 3 else if b=35 then 4 else if b=123 then 5 else if b=91 then 6 else 2
theorem cls_dig {x:UInt8} (h:x=45 ∨ (48 ≤ x.toNat ∧ x.toNat ≤ 57)):cls x=2:=by
  unfold cls
  rcases h with e | e
  · subst e; decide
  · have h1:x ≠ 116 ∧ x ≠ 102 ∧ x ≠ 34 ∧ x ≠ 35 ∧ x ≠ 123 ∧ x ≠ 91:=by
      refine ⟨?_,?_,?_,?_,?_,?_⟩ <;> (intro e'; subst e'; revert e; decide)
    simp [h1]
theorem Val.RightAt.text_first {d:Nat} {v:Val} (h:v.RightAt d):∃ b t,v.text=b :: t ∧ cls b=v.kind:=by
  rw [Val.text_eq]
  rcases h.kind with k | k | k | k | k | k
  · rw [if_pos k]
    split
    · exact ⟨_,_,rfl,by rw [k]; decide⟩
    · exact ⟨_,_,rfl,by rw [k]; decide⟩
  · rw [if_neg (by omega),if_pos k]
    have hc:=decI_chars v.n
    cases e:decI v.n with
    | nil =>
      obtain ⟨b,t,hb,_⟩:=dec_cons v.n.toNat
      unfold decI at e
      split at e
      · cases e
      · rw [hb] at e; cases e
    | cons b t => exact ⟨b,t,rfl,by rw [k]; exact cls_dig (hc b (by rw [e]; simp))⟩
  · rw [if_neg (by omega),if_neg (by omega),if_pos k]
    exact ⟨_,_,rfl,by rw [k]; decide⟩
  · rw [if_neg (by omega),if_neg (by omega),if_neg (by omega),if_pos k]
    exact ⟨_,_,rfl,by rw [k]; decide⟩
  · rw [if_neg (by omega),if_neg (by omega),if_neg (by omega),if_neg (by omega),if_pos k]
    exact ⟨_,_,rfl,by rw [k]; decide⟩
  · rw [if_neg (by omega),if_neg (by omega),if_neg (by omega),if_neg (by omega),if_neg (by omega)]
    exact ⟨_,_,rfl,by rw [k]; decide⟩
end Go.Proofs.YtekgdmhdkhgpjaaGreatDoor.am

set_option linter.unusedSimpArgs false
set_option linter.unusedVariables false
namespace Go.Proofs.YtekgdmhdkhgpjaaGreatDoor.am
open Go
@[simp] theorem takeRet_se (s:Str):takeRet [] (.tup [.str s,.nili])=(.tup [.str s,.nili],[]):=rfl
theorem F_awake2 (a b:Box):DF lib nk 9 [] [a,b]=some (.bool true,[a,b]):=(DF_some _).2 ⟨1000,congrFun (congrFun awake_run2 a) b⟩
theorem F_note_Print (v:Val) (hv:v.Wf) (S:St):DF lib nk 17 [.agg v.enc] S=some (.tup (if v.rightB 5 then [.str v.text,.nili] else [.str [],.ifc 57 (.int .i64 1)]),S):=by
  rw [run_note_Print,DC_of c_note_Print.eq_1]
  have h1:=F_value_Right v hv (S ++ [.mem v.enc [] false])
  cases r:v.rightB 5
  · rw [r] at h1
    simp [h1,evUn,plainRes]
  · have h2:=F_note_written 5 v (by omega) hv r (S ++ [.mem v.enc [] false])
    rw [r] at h1
    simp [h1,h2,evUn,plainRes]
end Go.Proofs.YtekgdmhdkhgpjaaGreatDoor.am
