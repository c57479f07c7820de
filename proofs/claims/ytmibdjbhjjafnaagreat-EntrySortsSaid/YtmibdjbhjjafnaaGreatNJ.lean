/- Several texts, one behind the other: The library's sort, laid at this program, in plain words. The closure that entry.Sort hands the sort: how it answers, wherever it is called. A call whose run is known, at plain data, in whatever world: its answer; the world has new blocks and draws behind it. slices.SortFunc at names, by the library's contract: the row holds a permutation, sorted. slices.SortFunc at no names: its code, run. slices.SortFunc at a box of names: what is answered otherwise is so. -/
import Derived.Test.YtmibdjbhjjafnaaGreatProg
import Derived.Shelf.SlSortCmp.WholeK
import Derived.Shelf.SlGeneric
import Derived.Ground.SlsfProg
import Derived.Test.YtmibdjbhjjafnaaGreatNI
import Derived.Test.YtmibdjbhjjafnaaGreatND
import Derived.Sort.Grow
import Derived.Deep.Draws
set_option linter.unusedSimpArgs false
set_option linter.unusedVariables false
/- The library's sort, laid at this program, in plain words. -/
namespace Go.Proofs.YtmibdjbhjjafnaaGreat.am
open Go.Proofs Go.Shelf Go.RowKit Go.Lib Go.Sort
def Tryz.sortHs_ren : Go.Shelf.Ren := ⟨fun | 6 => 21 | 15 => 40 | 14 => 39 | 28 => 65 | 29 => 66 | 20 => 57 | 21 => 58 | 22 => 59 | 23 => 60 | 24 => 61 | 25 => 62 | 26 => 63 | 27 => 64 | 46 => 77 | 47 => 78 | 48 => 79 | 49 => 80 | 50 => 81 | 57 => 95 | n => n, fun | 22 => 24 | 24 => 23 | 25 => 65 | 3 => 3 | 39 => 67 | 0 => 0 | 53 => 110 | 55 => 26 | 4 => 4 | 46 => 103 | 45 => 102 | 50 => 107 | 5 => 5 | 9 => 9 | 66 => 122 | 70 => 126 | 76 => 138 | 77 => 139 | n => n, fun | n => n⟩
theorem Tryz.sortHs : Go.Proofs.SlLaysF0.n6 Tryz.prog Tryz.sortHs_ren := {
  mixed := by kernel_rfl
  f6 := ⟨Tryz.f21.name, by decide, Tryz.func21.trans (congrArg some (by kernel_rfl))⟩
  f14 := ⟨Tryz.f39.name, by decide, Tryz.func39.trans (congrArg some (by kernel_rfl))⟩
  f15 := Tryz.func40.trans (congrArg some (by kernel_rfl))
  f20 := ⟨Tryz.f57.name, by decide, Tryz.func57.trans (congrArg some (by kernel_rfl))⟩
  f21 := ⟨Tryz.f58.name, by decide, Tryz.func58.trans (congrArg some (by kernel_rfl))⟩
  f22 := ⟨Tryz.f59.name, by decide, Tryz.func59.trans (congrArg some (by kernel_rfl))⟩
  f23 := ⟨Tryz.f60.name, by decide, Tryz.func60.trans (congrArg some (by kernel_rfl))⟩
  f24 := ⟨Tryz.f61.name, by decide, Tryz.func61.trans (congrArg some (by kernel_rfl))⟩
  f25 := ⟨Tryz.f62.name, by decide, Tryz.func62.trans (congrArg some (by kernel_rfl))⟩
  f26 := ⟨Tryz.f63.name, by decide, Tryz.func63.trans (congrArg some (by kernel_rfl))⟩
  f27 := ⟨Tryz.f64.name, by decide, Tryz.func64.trans (congrArg some (by kernel_rfl))⟩
  f28 := Tryz.func65.trans (congrArg some (by kernel_rfl))
  f29 := Tryz.func66.trans (congrArg some (by kernel_rfl))
  f46 := ⟨Tryz.f77.name, by decide, Tryz.func77.trans (congrArg some (by kernel_rfl))⟩
  f47 := Tryz.func78.trans (congrArg some (by kernel_rfl))
  f48 := Tryz.func79.trans (congrArg some (by kernel_rfl))
  f49 := ⟨Tryz.f80.name, by decide, Tryz.func80.trans (congrArg some (by kernel_rfl))⟩
  f50 := ⟨Tryz.f81.name, by decide, Tryz.func81.trans (congrArg some (by kernel_rfl))⟩
  f57 := ⟨Tryz.f95.name, by decide, Tryz.func95.trans (congrArg some (by kernel_rfl))⟩
  t0 := Tryz.underlying0
  a0 := Tryz.isAgg0
  z0 := Tryz.sizeOf0
  v0 := Tryz.zeroValue0
  t3 := Tryz.underlying3
  a3 := Tryz.isAgg3
  z3 := Tryz.sizeOf3
  v3 := Tryz.zeroValue3
  t4 := Tryz.underlying4
  a4 := Tryz.isAgg4
  z4 := Tryz.sizeOf4
  v4 := Tryz.zeroValue4
  t5 := Tryz.underlying5
  a5 := Tryz.isAgg5
  z5 := Tryz.sizeOf5
  v5 := Tryz.zeroValue5
  t9 := Tryz.underlying9
  a9 := Tryz.isAgg9
  z9 := Tryz.sizeOf9
  v9 := Tryz.zeroValue9
  t22 := Tryz.underlying24
  a22 := Tryz.isAgg24
  z22 := Tryz.sizeOf24
  v22 := Tryz.zeroValue24
  t25 := Tryz.underlying65
  a25 := Tryz.isAgg65
  z25 := Tryz.sizeOf65
  v25 := Tryz.zeroValue65
  t39 := Tryz.underlying67
  a39 := Tryz.isAgg67
  z39 := Tryz.sizeOf67
  v39 := Tryz.zeroValue67
  t45 := Tryz.underlying102
  a45 := Tryz.isAgg102
  z45 := Tryz.sizeOf102
  v45 := Tryz.zeroValue102
  t46 := Tryz.underlying103
  a46 := Tryz.isAgg103
  z46 := Tryz.sizeOf103
  v46 := Tryz.zeroValue103
  t50 := Tryz.underlying107
  a50 := Tryz.isAgg107
  z50 := Tryz.sizeOf107
  v50 := Tryz.zeroValue107
  t53 := Tryz.underlying110
  a53 := Tryz.isAgg110
  z53 := Tryz.sizeOf110
  v53 := Tryz.zeroValue110
  t55 := Tryz.underlying26
  a55 := Tryz.isAgg26
  z55 := Tryz.sizeOf26
  v55 := Tryz.zeroValue26
  t66 := Tryz.underlying122
  a66 := Tryz.isAgg122
  z66 := Tryz.sizeOf122
  v66 := Tryz.zeroValue122
  t70 := Tryz.underlying126
  a70 := Tryz.isAgg126
  z70 := Tryz.sizeOf126
  v70 := Tryz.zeroValue126
  t76 := Tryz.underlying138
  a76 := Tryz.isAgg138
  z76 := Tryz.sizeOf138
  v76 := Tryz.zeroValue138
  t77 := Tryz.underlying139
  a77 := Tryz.isAgg139
  z77 := Tryz.sizeOf139
  v77 := Tryz.zeroValue139 }
end Go.Proofs.YtmibdjbhjjafnaaGreat.am

/- The closure that entry.Sort hands the sort: how it answers, wherever it is called. -/
set_option linter.unusedSimpArgs false
namespace Go.Proofs.YtmibdjbhjjafnaaGreat.am
open Go
/-- no prims -/
def nk0 : NK := ⟨fun _ => false, fun _ => none⟩
@[simp] theorem nk0_keep (f : FuncId) : nk0.keep f = false := rfl
@[simp] theorem nk0_prim (f : FuncId) : nk0.prim f = none := rfl
theorem nk0_ok (P : Program) : PrimOK P nk0 := ⟨fun f p h => by simp at h, fun f p h => by simp at h⟩
theorem G_cmp_isNaN_byte (n : Int) (S : St) : DF lib nk0 67 [.int .u8 n] S = some (.bool false, S) := by
  rw [run_cmp_isNaN_byte, DC_of c_cmp_isNaN_byte.eq_1]
  simp
theorem G_cmp_Compare_byte (a b : Int) (S : St) : DF lib nk0 41 [.int .u8 a, .int .u8 b] S = some (.int .i64 (if a < b then -1 else if b < a then 1 else 0), S) := by
  rw [run_cmp_Compare_byte, DC_of c_cmp_Compare_byte.eq_1]
  have h1 := G_cmp_isNaN_byte a S
  have h2 := G_cmp_isNaN_byte b S
  by_cases c1 : a < b
  · simp [h1, h2, c1]
  · by_cases c2 : b < a
    · simp [h1, h2, c1, c2]
    · simp [h1, h2, c1, c2]
theorem G_cmp_Compare_byte' (a b : UInt8) (S : St) : DF lib nk0 41 [cellB a, cellB b] S = some (.int .i64 (if a < b then -1 else if b < a then 1 else 0), S) := by
  have := G_cmp_Compare_byte a.toNat b.toNat S
  simp only [u8_lt] at this
  exact this

theorem M_slices_Compare_byte (r r' : Right) (n : Nat) (x y : List UInt8) (hx : x.length = n) (hy : y.length = n) (hn : n < 9223372036854775808) (nb : Nat) (S : St) : ∀ d i, i + d = n →
    DC lib nk0 (.loop l_slices_Compare_byte_0) ⟨[(0, .sl r 1 (bcs x)), (1, .sl r' 1 (bcs y)), (9, .sl r 1 (bcs x)), (10, .int .i64 n), (11, .int .i64 i)], [], nb⟩ S =
      if cmpL (x.drop i) (y.drop i) = 0 then some (.exit 0, ⟨[(0, .sl r 1 (bcs x)), (1, .sl r' 1 (bcs y))], [], nb⟩, S) else some (.ret, ⟨[(4, .int .i64 (cmpL (x.drop i) (y.drop i)))], [], nb⟩, S) := by
  intro d
  induction d with
  | zero =>
    intro i hi
    rw [DC_loop', DC_of l_slices_Compare_byte_0.eq_1]
    have h3 : x.drop i = [] := List.drop_eq_nil_of_le (by omega)
    have h4 : y.drop i = [] := List.drop_eq_nil_of_le (by omega)
    have h5 : ¬ i < n := by omega
    simp [h3, h4, h5, cmpL]
  | succ d ih =>
    intro i hi
    rw [DC_loop', DC_of l_slices_Compare_byte_0.eq_1]
    have h3 : i < n := by omega
    have h6 : ¬ n ≤ i := by omega
    obtain ⟨a, ha, ha'⟩ := get_of_lt' (l := x) (i := i) (by omega)
    obtain ⟨b, hb, hb'⟩ := get_of_lt' (l := y) (i := i) (by omega)
    rw [drop_get ha, drop_get hb]
    have hn' := ih (i + 1) (by omega)
    have hw := wrap_succ (i := i) (by omega)
    have hf := G_cmp_Compare_byte a.toNat b.toNat S
    simp only [u8_lt] at hf
    simp at hn' hw
    by_cases c1 : a < b
    · simp [h3, h6, ha, hb, ha', hb', hy, cmpL, c1, hf, cellB]
    · by_cases c2 : b < a
      · simp [h3, h6, ha, hb, ha', hb', hy, cmpL, c1, c2, hf, cellB]
      · simp [h3, h6, ha, hb, ha', hb', hy, cmpL, c1, c2, hf, cellB]
        rw [DC_keep_of l_slices_Compare_byte_0.eq_1]
        simp [hw, hn']
theorem G_slices_Compare_byte (r r' : Right) (x y : List UInt8) (h0 : x ≠ []) (hy : y.length = x.length) (hn : x.length < 9223372036854775808) (S : St) : DF lib nk0 23 [.sl r 1 (bcs x), .sl r' 1 (bcs y)] S = some (.int .i64 (cmpL x y), S) := by
  rw [run_slices_Compare_byte, DC_of c_slices_Compare_byte.eq_1]
  have := M_slices_Compare_byte r r' x.length x y rfl hy hn S.length S x.length 0 (by omega)
  simp at this
  by_cases e : cmpL x y = 0
  · simp [e] at this
    simp
    rw [DC_keep_of l_slices_Compare_byte_0.eq_1]
    simp [this, hy, e]
  · simp [e] at this
    simp
    rw [DC_keep_of l_slices_Compare_byte_0.eq_1]
    simp [this, hy, e]
theorem G_entry_Sort_1 (x y : List UInt8) (hx : x.length = 32) (hy : y.length = 32) (S : St) : DF lib nk0 22 [.agg (encB x), .agg (encB y)] S = some (.int .i64 (cmpL x y), S) := by
  rw [run_entry_Sort_1, DC_of c_entry_Sort_1.eq_1]
  have h := fun r r' S => G_slices_Compare_byte r r' x y (by intro e; simp [e] at hx) (by omega) (by omega) S
  have g0 : giveArg (S ++ [.mem (encB x) [] false, .mem (encB y) [] false]) (.aref S.length 0 32 32 1) = some (.sl (.loan S.length) 1 (bcs x)) := giveArg_B (bt := []) (b := false) (by simp) hx
  have g1 : giveArg (S ++ [.mem (encB x) [] false, .mem (encB y) [] false]) (.aref (S.length + 1) 0 32 32 1) = some (.sl (.loan (S.length + 1)) 1 (bcs y)) := giveArg_B (bt := []) (b := false) (by simp) hy
  have hb := cmpL_lt x y
  have n0 : ∀ i (z : List UInt8), norm (.sl (.loan i) 1 (bcs z)) = .sl (.loan i) 1 (bcs z) := fun _ _ => rfl
  simp [hx, hy, h, slAK, g0, g1, lockAll, lockOne, boxOf, unlockAll, unlockOne, hb, n0]
end Go.Proofs.YtmibdjbhjjafnaaGreat.am

/- A call whose run is known, at plain data, in whatever world: its answer; the world has new blocks and draws behind it. -/
set_option linter.unusedSimpArgs false
namespace Go.Proofs.YtmibdjbhjjafnaaGreat.am
open Go Go.RowKit Go.Sort
theorem belo_grow {W w' : World} (h : Belo W.heap.size W w') : ∃ q os', w' = grow (W.drewN q) os' := by
  obtain ⟨⟨h1, h2, h3, h4, h5⟩, h6⟩ := h
  refine ⟨w'.drawn - W.drawn, w'.heap.extract W.heap.size w'.heap.size, ?_⟩
  have hh : w'.heap = W.heap ++ w'.heap.extract W.heap.size w'.heap.size := by
    refine Array.ext_getElem? fun k => ?_
    rcases Nat.lt_or_ge k W.heap.size with hk | hk
    · rw [Array.getElem?_append_left hk, h5 k hk]
    · rw [Array.getElem?_append_right hk, Array.getElem?_extract]
      split
      · congr 1; omega
      · rw [Array.getElem?_eq_none (by omega)]
  have hd : W.drawn + (w'.drawn - W.drawn) = w'.drawn := by omega
  cases w'
  simp only [grow, World.drewN] at *
  subst h1 h2 h3
  rw [hd, ← hh]
theorem dat_calls {P : Program} {lib : FuncId → Option KF} {nk : NK} (hm : P.follows .mixedOrders = true) (hN : Named P) (hpr : PrimOK P nk) (hlib : ∀ f k, lib f = some k → ∃ fn, P.funcs[f]? = some fn ∧ KOK P fn k)
    {f : FuncId} {avs : List AV} {k : IntKind} {n : Int} (h : DF lib nk f avs [] = some (.int k n, [])) {W : World} {args : Array Value} (hd : ∀ a ∈ avs, Dat a) (hl : avs.length = args.size) (ha : ∀ (j : Nat) (a : AV), avs[j]? = some a → ∃ v, args[j]? = some v ∧ RVd W a v) :
    Calls P f args W fun e w' => e = .returned (.int k n) ∧ ∃ q os', w' = grow (W.drewN q) os' := by
  obtain ⟨m, hn⟩ := (DF_some _).1 h
  have I : Inv W.heap.size (fun _ => False) [] [] W (fun _ => none) (hwOf W) (fun _ => ⟨0, 0, 0, 0⟩) := by
    refine ⟨fun i bx b h => by simp at h, fun i cs bt l b h => by simp at h, fun i j b h => by simp at h, fun i b h => by simp at h, fun b hb => ?_, fun id L h => ?_, fun id id' L L' h => ?_, fun b h => h.elim, Nat.le_refl _⟩
    · unfold hwOf
      rw [Array.getElem?_eq_none hb]
    · cases id <;> simp [live] at h
    · cases id <;> simp [live] at h
  obtain ⟨_, hc⟩ := all_kcalls hm hN hpr hlib m f avs [] _ _ hn W.heap.size (fun _ => False) W (fun _ => none) (hwOf W) (fun _ => ⟨0, 0, 0, 0⟩) args I hl (fun j a hj => by
    obtain ⟨v, hv, hr⟩ := ha j a hj
    exact ⟨v, hv, hr _ _, (hd a (List.mem_of_getElem? hj)).flag⟩)
  refine hc.mono fun e w' A => ?_
  obtain ⟨v, rfl, mu', hw', ti', _, ext, _, rv, _⟩ := A
  refine ⟨?_, belo_grow ext.ebelow⟩
  have e : (takeRet [] (AV.int k n)).1 = .int k n := rfl
  rw [e] at rv
  cases rv
  rfl
end Go.Proofs.YtmibdjbhjjafnaaGreat.am

/- slices.SortFunc at names, by the library's contract: the row holds a permutation, sorted. -/
set_option linter.unusedSimpArgs false
namespace Go.Proofs.YtmibdjbhjjafnaaGreat.am
open Go Go.Proofs Go.Shelf Go.RowKit Go.Lib Go.Sort
/-- a name -/
abbrev Hs : Type := { x : List UInt8 // x.length = 32 }
instance : Inhabited Hs := ⟨⟨List.replicate 32 0, by simp⟩⟩
def vB (b : UInt8) : Value := .int .u8 (b.toNat : Int)
def vH (x : Hs) : List Value := x.1.map vB
def cfH (x y : Hs) : Int := cmpL x.1 y.1
theorem ltH (x y : Hs) : ltOf cfH x y = bl x.1 y.1 := by
  have := cmpL_lt x.1 y.1
  unfold ltOf cfH
  cases h : bl x.1 y.1
  · rw [h] at this; simp at this ⊢; omega
  · rw [h] at this; simpa using this
theorem swoH : SWO (ltOf cfH) where
  irrefl x := by rw [ltH]; exact bl_irrefl _
  trans x y z h1 h2 := by rw [ltH] at *; exact bl_trans _ _ _ h1 h2
  ntrans x y z h1 h2 := by
    rw [ltH] at *
    by_cases e : x.1 = y.1
    · rw [e]; exact h2
    · have := bl_total _ _ e h1
      cases h : bl x.1 z.1
      · rfl
      · have := bl_trans _ _ _ this h
        rw [h2] at this; cases this
theorem rvd_H (W : World) (x : Hs) : RVd W (.agg (encB x.1)) (.agg (vH x).toArray) := by
  intro mu lk
  have h := RV.agg (w := W) (mu := mu) (hw := hwOf W) (lk := lk) (encB x.1) (fun j => ((vH x)[j]?).getD .nilFunc) (fun j a hj => by
    simp only [encB, List.getElem?_map, Option.map_eq_some_iff] at hj
    obtain ⟨b, _, rfl⟩ := hj
    rfl) (fun j a hj => by
    simp only [encB, List.getElem?_map, Option.map_eq_some_iff] at hj
    obtain ⟨b, hb, rfl⟩ := hj
    simp only [vH, List.getElem?_map, hb, Option.map_some, Option.getD_some]
    exact .int _ _)
  have e : ((List.range (encB x.1).length).map fun j => ((vH x)[j]?).getD .nilFunc) = vH x := by
    refine List.ext_getElem? fun j => ?_
    rcases Nat.lt_or_ge j x.1.length with h1 | h1
    · rw [List.getElem?_map, List.getElem?_range (by simpa using h1)]
      simp [vH, h1]
    · rw [List.getElem?_eq_none (by simpa using h1), List.getElem?_eq_none (by simpa [vH] using h1)]
  rw [e] at h
  exact h
theorem mixedS : Tryz.prog.follows .mixedOrders = true := by kernel_rfl
theorem names : Tryz.prog.funcs.all (fun fn => !(fn.name == "runtime.NumGoroutine")) = true := by kernel_rfl
theorem namedS : Named Tryz.prog := by
  intro f fn h
  have := Array.all_eq_true.1 names f (Array.getElem?_eq_some_iff.1 h).1
  rw [(Array.getElem?_eq_some_iff.1 h).2] at this
  simpa using this

set_option maxRecDepth 100000 in
theorem cmp_calls (x y : Hs) (W : World) : Calls Tryz.prog 22 #[.agg (vH x).toArray, .agg (vH y).toArray] W fun e w' => e = .returned (.int .i64 (cfH x y)) ∧ ∃ q os', w' = grow (W.drewN q) os' := by
  refine dat_calls (lib := lib) (nk := nk0) mixedS namedS (nk0_ok _) lib_ok (G_entry_Sort_1 x.1 y.1 x.2 y.2 []) (W := W) (fun a ha => ?_) rfl (fun j a hj => ?_)
  · simp at ha
    rcases ha with rfl | rfl <;> exact dat_agg (datL_encB _)
  · rcases j with _ | _ | j
    · cases hj; exact ⟨_, rfl, rvd_H W x⟩
    · cases hj; exact ⟨_, rfl, rvd_H W y⟩
    · simp at hj
theorem lays22 (blk off size : Nat) (w : World) : CmpLays Tryz.prog 22 #[] vH 32 cfH blk off size w := fun _ _ _ _ x y => cmp_calls x y _
theorem sort_calls (blk off cap : Nat) (d : Array Hs) (w : World) (hH : HoldsK vH 32 w blk off d) (hblk : blk < w.heap.size) (hsz : d.size < 4611686018427387904) :
    Calls Tryz.prog 21 #[.slice (some ⟨blk, off, none⟩) d.size cap, .func (.func 22) #[] #[]] w fun e w' =>
      e = .returned (.tuple #[]) ∧ ∃ d' n os, PermIn 0 d.size d d' ∧ SortedIn (ltOf cfH) 0 d.size d' ∧ w' = sortWorldK vH 32 w blk off n d' os := by
  have eg : ∀ args w, (callFunc 22 args).run Tryz.prog w = .ok (.enter 22 args) w := enters_of Tryz.func22 (by kernel_rfl) rfl
  exact AnyQ.slices_SortFunc Tryz.sortHs 32 (fun _ => by kernel_rfl) (fun _ => by kernel_rfl) vH (fun x => by simp [vH, x.2]) (fun x v hv => by simp [vH] at hv; obtain ⟨b, _, rfl⟩ := hv; rfl) cfH swoH 22 #[] blk off cap d w eg (lays22 blk off d.size w) hH hblk hsz
end Go.Proofs.YtmibdjbhjjafnaaGreat.am

/- slices.SortFunc at no names: its code, run. -/
namespace Go.Proofs.YtmibdjbhjjafnaaGreat.am
open Go
theorem sort_nil_run : evKF lib nk0 60 21 [.sl .none 1 [], .fn 22 [] []] [] = some (.tup [], []) := by kernel_rfl
end Go.Proofs.YtmibdjbhjjafnaaGreat.am

/- slices.SortFunc at a box of names: what is answered otherwise is so. -/
set_option linter.unusedSimpArgs false
set_option linter.unusedVariables false
namespace Go.Proofs.YtmibdjbhjjafnaaGreat.am
open Go Go.RowKit Go.Sort

/-- a world with more blocks, more draws -/
theorem inv_heap {base : Nat} {prot : Nat → Prop} {tips : List (Option Nat)} {S : St} {w w' : World} {mu : Nat → Option Nat} {hw : Nat → Nat} {ti : Id → TI} (I : Inv base prot tips S w mu hw ti)
    (h1 : ∀ k, k < w.heap.size → w'.heap[k]? = w.heap[k]?) (h2 : w.heap.size ≤ w'.heap.size) (h3 : w'.os = w.os ∧ w'.tape = w.tape ∧ w'.output = w.output ∧ w.drawn ≤ w'.drawn) :
    Inv base prot tips S w' mu hw ti ∧ Ext base prot S w mu hw S w' mu hw := by
  have e : Ext base prot S w mu hw S w' mu hw := by
    refine ⟨fun _ _ h => h, fun _ => Nat.le_refl _, fun _ h => h, fun b o v _ h => ?_, fun b h => ⟨h1 b (I.iprot b h), rfl⟩, ⟨⟨h3.1, h3.2.1, h3.2.2.1, ?_, fun k hk => h1 k (by have := I.ibase; omega)⟩, h3.2.2.2⟩, Nat.le_refl _⟩
    · rw [cell_eq (h1 b (World.block_lt_of_cell? w _ h))]; exact h
    · have := I.ibase; omega
  refine ⟨⟨fun i bx b a1 a2 => (I.ibox i bx b a1 a2).ext e (h1 _ (I.idom i b a2).2.2.1), fun i cells bt l b a1 a2 vs el a3 => I.iflag i cells bt l b a1 a2 vs el (by rw [← h1 _ (I.idom i b a2).2.2.1]; exact a3), I.iinj, fun i b h => ?_, fun b h => I.iout b (by omega), fun id L h => ?_, I.itinj, fun b h => by have := I.iprot b h; omega, by have := I.ibase; omega⟩, e⟩
  · obtain ⟨a, b', c, d, f⟩ := I.idom i b h
    exact ⟨a, b', by omega, d, f⟩
  · obtain ⟨a, b⟩ := I.itip id L h
    exact ⟨a.keep rfl (h1 _ a.lt), b⟩

theorem unB_inv : ∀ (c : List AV) (x : List UInt8), unB c = some x → c = encB x := by
  intro c
  induction c with
  | nil => intro x h; simp [unB] at h; subst h; rfl
  | cons a r ih =>
    intro x h
    unfold unB at h
    split at h
    · rename_i e; cases e
    · rename_i n r' e
      cases e
      split at h
      · rename_i hn
        simp only [Option.map_eq_some_iff] at h
        obtain ⟨l, hl, rfl⟩ := h
        rw [ih l hl]
        simp only [encB, List.map_cons, cellB, List.cons.injEq, and_true, AV.int.injEq, true_and]
        have : (UInt8.ofNat n.toNat).toNat = n.toNat := by simp; omega
        omega
      · cases h
    · cases h
theorem unHs_inv : ∀ (es : List (List AV)) (l : List (List UInt8)), unHs es = some l → es = l.map encB ∧ All32 l := by
  intro es
  induction es with
  | nil => intro l h; simp [unHs] at h; subst h; exact ⟨rfl, fun x hx => by simp at hx⟩
  | cons c r ih =>
    intro l h
    unfold unHs at h
    split at h
    · rename_i x l' h1 h2
      split at h
      · rename_i hx
        cases h
        obtain ⟨a, b⟩ := ih l' h2
        refine ⟨by rw [unB_inv c x h1, a]; rfl, fun y hy => ?_⟩
        rcases List.mem_cons.1 hy with rfl | hy
        · exact hx
        · exact b y hy
      · cases h
    · cases h
theorem strip_int {a : AV} {k : IntKind} {n : Int} (h : strip a = .int k n) : a = .int k n := by
  cases a with
  | int k' n' => simpa [strip] using h
  | sl r sz es => cases r <;> simp [strip] at h
  | _ => simp [strip] at h
theorem strip_encB : ∀ (c : List AV) (x : List UInt8), c.map strip = encB x → c = encB x := by
  intro c
  induction c with
  | nil => intro x h; simpa using h
  | cons a c ih =>
    intro x h
    cases x with
    | nil => simp [encB] at h
    | cons b x =>
      simp only [encB, List.map_cons, List.cons.injEq] at h
      have := ih x h.2
      rw [this, strip_int h.1]
      rfl
/-- rows of cells, put together again -/
theorem subs_join : ∀ (n : Nat) (cs : List AV), cs.length = n * 32 → ((List.range n).map fun k => sub cs (0 + k * 32) 32).flatten = cs := by
  intro n
  induction n with
  | zero => intro cs h; simp at h; subst h; rfl
  | succ n ih =>
    intro cs h
    have h1 := ih (cs.drop 32) (by simp; omega)
    rw [List.range_succ_eq_map, List.map_cons, List.flatten_cons]
    have e : sub cs (0 + 0 * 32) 32 = cs.take 32 := by simp [sub]
    rw [e]
    conv => rhs; rw [← List.take_append_drop 32 cs]
    congr 1
    conv => rhs; rw [← h1]
    rw [List.map_map]
    congr 1
    refine List.map_congr_left fun k _ => ?_
    simp only [Function.comp, sub, List.drop_drop]
    congr 2
    omega
theorem names_of_box {cs : List AV} {bt : List (Option Nat)} {S : St} {i n sz : Nat} {es : List (List AV)} {l : List (List UInt8)} (hS : S[i]? = some (.mem cs bt false)) (hl : cs.length = n * 32) (he : elemsOf S (.oref i 0 n 32) = some (sz, es)) (hu : unHs es = some l) :
    cs = rows l ∧ All32 l ∧ l.length = n := by
  simp only [elemsOf, hS] at he
  split at he
  case isFalse => cases he
  simp only [Option.some.injEq, Prod.mk.injEq] at he
  obtain ⟨rfl, rfl⟩ := he
  obtain ⟨h1, h2⟩ := unHs_inv _ _ hu
  have hn : l.length = n := by
    have := congrArg List.length h1
    simpa using this.symm
  refine ⟨?_, h2, hn⟩
  have h3 : ∀ k (hk : k < n), sub cs (0 + k * 32) 32 = encB (l[k]'(by omega)) := by
    intro k hk
    have h4 := congrArg (fun (x : List (List AV)) => x[k]?) h1
    simp [hk, hn] at h4
    exact strip_encB _ _ (by simpa using h4)
  rw [← subs_join n cs hl]
  unfold rows
  congr 1
  refine List.ext_getElem? fun k => ?_
  rcases Nat.lt_or_ge k n with hk | hk
  · have h5 := h3 k hk
    rw [Nat.zero_add] at h5
    simp [hk, hn, h5]
  · rw [List.getElem?_eq_none (by simpa using hk), List.getElem?_eq_none (by simp; omega)]

/-- names as the library's row of them -/
def toH (l : List (List UInt8)) (h : All32 l) : Array Hs := (l.attach.map fun x => (⟨x.1, h x.1 x.2⟩ : Hs)).toArray
theorem toH_vals (l : List (List UInt8)) (h : All32 l) : (toH l h).toList.map (·.1) = l := by
  show (l.attach.map fun x => (⟨x.1, h x.1 x.2⟩ : Hs)).map (·.1) = l
  rw [List.map_map]
  exact List.attach_map_subtype_val l
theorem toH_size (l : List (List UInt8)) (h : All32 l) : (toH l h).size = l.length := by 
  show (l.attach.map fun x => (⟨x.1, h x.1 x.2⟩ : Hs)).length = _
  rw [List.length_map, List.length_attach]
theorem flat_at (d : Array Hs) (m : List (List UInt8)) (hm : d.toList.map (·.1) = m) (h32 : All32 m) (j : Nat) (a : AV) (hj : (rows m)[j]? = some a) : j < d.size * 32 ∧ ∃ b : UInt8, a = cellB b ∧ (flatK vH 32 d)[j]! = vB b := by
  have hl : ∀ (i : Nat) (cs : List AV), (m.map encB)[i]? = some cs → cs.length = 32 := by
    intro i cs hi
    simp only [List.getElem?_map, Option.map_eq_some_iff] at hi
    obtain ⟨x, hx, rfl⟩ := hi
    simp [h32 x (List.mem_of_getElem? hx)]
  obtain ⟨i, cs, k, h1, h2, rfl⟩ := flatten_get _ hl j a hj
  have hk := hl i cs h1
  simp only [List.getElem?_map, Option.map_eq_some_iff] at h1
  obtain ⟨x, hx, rfl⟩ := h1
  have hk32 : k < 32 := by rw [← hk]; exact lt_of_get h2
  have him : i < m.length := lt_of_get hx
  have hsz : d.size = m.length := by rw [← hm]; simp
  have hlt : i * 32 + k < d.size * 32 := by omega
  refine ⟨hlt, ?_⟩
  simp only [encB, List.getElem?_map, Option.map_eq_some_iff] at h2
  obtain ⟨b, hb, rfl⟩ := h2
  refine ⟨b, rfl, ?_⟩
  rw [get_flatK _ _ _ _ hlt]
  have e1 : (i * 32 + k) / 32 = i := by omega
  have e2 : (i * 32 + k) % 32 = k := by omega
  rw [e1, e2]
  have hdi : i < d.size := by omega
  have hv : (d[i]!).1 = x := by
    rw [getElem!_pos d i hdi]
    have := congrArg (fun (l : List (List UInt8)) => l[i]?) hm
    simp only [List.getElem?_map, hx, Array.getElem?_toList, Array.getElem?_eq_getElem hdi, Option.map_some, Option.some.injEq] at this
    exact this
  unfold vH
  rw [hv]
  have : (x.map vB)[k]? = some (vB b) := by simp [hb]
  rw [List.getElem!_eq_getElem?_getD, this]
  rfl
theorem putRow_block {w : World} {b : Nat} {vs : Array Value} {el : TypeId} (hb : w.heap[b]? = some (.cells vs el (0, 0))) (F : Array Value) :
    (putRow id w b 0 F).heap[b]? = some (.cells (putCells id 0 F vs) el (0, 0)) ∧ (∀ k, k ≠ b → (putRow id w b 0 F).heap[k]? = w.heap[k]?) ∧ (putRow id w b 0 F).heap.size = w.heap.size := by
  unfold putRow mapBlock
  refine ⟨?_, fun k hk => ?_, by simp⟩
  · simp only [Array.getElem?_modify, if_true, hb, Option.map_some]
    rfl
  · simp only [Array.getElem?_modify]
    rw [if_neg (fun e => hk e.symm)]

theorem after_same {base : Nat} {prot : Nat → Prop} {S : St} {w w' : World} {mu : Nat → Option Nat} {hw : Nat → Nat} {ti : Id → TI} (I : Inv base prot [] S w mu hw ti)
    (h1 : ∀ k, k < w.heap.size → w'.heap[k]? = w.heap[k]?) (h2 : w.heap.size ≤ w'.heap.size) (h3 : w'.os = w.os ∧ w'.tape = w.tape ∧ w'.output = w.output ∧ w.drawn ≤ w'.drawn) :
    After Tryz.prog base prot S w mu hw ti (.tup []) S (.returned (.tuple #[])) w' := by
  obtain ⟨I', e⟩ := inv_heap I h1 h2 h3
  refine ⟨_, rfl, mu, hw, ti, I', e, LvExt.refl _ _, ?_, ?_, fun i hi _ => ⟨rfl, hi⟩⟩
  · simpa [takeRet, takeResL] using RV.tup (w := w') (mu := mu) (hw := hw) (lk := lkS S mu) [] (fun _ => .bool false) (by simp)
  · intro arr _ j x y hx; simp [takeRet, takeResL] at hx

abbrev SORTH : FuncId := 21
abbrev CMPH : FuncId := 22
theorem sort_sim : CallSim Tryz.prog (fun g args S => if g = SORTH then sortHsP CMPH args S else none) := by
  intro f args S r S' h base prot w mu hw ti vargs I hl ha
  simp only at h
  split at h
  case isFalse => cases h
  rename_i hf
  subst hf
  have hbody : ∃ fn c, Tryz.prog.funcs[SORTH]? = some fn ∧ fn.body = some c := by
    obtain ⟨fn, hfn, _, _, hb, _⟩ := lib_ok SORTH k_slices_SortFunc_api_Hash rfl
    cases hbd : fn.body with
    | none => simp [hbd] at hb
    | some c => exact ⟨fn, c, hfn, hbd⟩
  refine ⟨hbody, ?_⟩
  have hfunc : ∀ v, RV w mu hw (lkS S mu) (.fn CMPH [] []) v → v = .func (.func CMPH) #[] #[] := by
    intro v hv
    cases hv with
    | fn _ _ _ f1 f2 n1 n2 => rfl
  unfold sortHsP at h
  split at h
  · rename_i g
    split at h
    case isFalse => cases h
    rename_i hg
    subst hg
    cases h
    obtain ⟨v0, h0, r0, _⟩ := ha 0 _ rfl
    obtain ⟨v1, h1, r1, _⟩ := ha 1 _ rfl
    obtain rfl := hfunc v1 r1
    cases r0
    have hva : vargs = #[.slice none 0 0, .func (.func CMPH) #[] #[]] := by
      apply Array.ext_getElem?
      intro k
      match k with
      | 0 => simpa using h0
      | 1 => simpa using h1
      | k + 2 =>
        have : vargs.size = 2 := by simpa using hl.symm
        rw [Array.getElem?_eq_none (by omega)]
        simp
    subst hva
    have I0 : Inv w.heap.size (fun _ => False) [] [] w (fun _ => none) (hwOf w) (fun _ => ⟨0, 0, 0, 0⟩) := by
      refine ⟨fun i bx b h => by simp at h, fun i cs bt l b h => by simp at h, fun i j b h => by simp at h, fun i b h => by simp at h, fun b hb => ?_, fun id L h => ?_, fun id id' L L' h => ?_, fun b h => h.elim, Nat.le_refl _⟩
      · unfold hwOf
        rw [Array.getElem?_eq_none hb]
      · cases id <;> simp [live] at h
      · cases id <;> simp [live] at h
    obtain ⟨_, hc⟩ := all_kcalls mixedS namedS (nk0_ok _) lib_ok 60 SORTH [.sl .none 1 [], .fn CMPH [] []] [] _ _ sort_nil_run w.heap.size (fun _ => False) w (fun _ => none) (hwOf w) (fun _ => ⟨0, 0, 0, 0⟩) #[.slice none 0 0, .func (.func CMPH) #[] #[]] I0 rfl (fun j a hj => by
      match j with
      | 0 => cases hj; exact ⟨_, rfl, .emp 1 none 0, trivial⟩
      | 1 =>
        cases hj
        refine ⟨_, rfl, ?_, trivial⟩
        simpa using RV.fn (w := w) (mu := fun _ => none) (hw := hwOf w) (lk := lkS [] fun _ => none) CMPH [] [] (fun _ => undef) (fun _ => undef) (by simp) (by simp)
      | j + 2 => simp at hj)
    refine hc.mono fun e w' A => ?_
    obtain ⟨v, rfl, mu', hw', ti', _, ext, _, rv, _⟩ := A
    have ev : v = .tuple #[] := by
      have e : (takeRet [] (AV.tup [])).1 = .tup [] := rfl
      rw [e] at rv
      generalize hx : AV.tup [] = x at rv
      cases rv with
      | tup vs f h2 => cases hx; rfl
      | _ => cases hx
    subst ev
    have eb := ext.ebelow
    obtain ⟨⟨b1, b2, b3, b4, b5⟩, b6⟩ := eb
    exact after_same I (fun k hk => b5 k hk) b4 ⟨b1, b2, b3, b6⟩
  · rename_i i n g
    split at h
    case isFalse => cases h
    rename_i hg
    subst hg
    split at h
    case h_2 => cases h
    rename_i cs bt hS
    split at h
    case isFalse => cases h
    rename_i hc
    split at h
    case h_2 => cases h
    rename_i z es he
    simp only [Option.map_eq_some_iff, Prod.mk.injEq] at h
    obtain ⟨l, hu, rfl, rfl⟩ := h
    obtain ⟨rfl, h32, hn⟩ := names_of_box hS hc.1 he hu
    obtain ⟨v0, h0, r0, _⟩ := ha 0 _ rfl
    obtain ⟨v1, h1, r1, _⟩ := ha 1 _ rfl
    obtain rfl := hfunc v1 r1
    generalize hx : AV.oref i 0 n 32 = x at r0
    cases r0 with
    | oref i' off' len' sz' b cap hb hlc =>
      cases hx
      have hva : vargs = #[.slice (some ⟨b, 0, none⟩) n cap, .func (.func CMPH) #[] #[]] := by
        apply Array.ext_getElem?
        intro k
        match k with
        | 0 => simpa using h0
        | 1 => simpa using h1
        | k + 2 =>
          have : vargs.size = 2 := by simpa using hl.symm
          rw [Array.getElem?_eq_none (by omega)]
          simp
      subst hva
      obtain ⟨vs, el, hvs, hrb⟩ := I.ibox i _ b hS hb
      obtain ⟨di, dbase, dlt, dhw, dprot⟩ := I.idom i b hb
      have hsz : (toH l h32).size = n := by rw [toH_size, hn]
      have hrl : (rows l).length = n * 32 := hc.1
      have hH : HoldsK vH 32 w b 0 (toH l h32) := by
        intro j hj
        rw [size_flatK, hsz] at hj
        obtain ⟨a, hja⟩ : ∃ a, (rows l)[j]? = some a := ⟨(rows l)[j]'(by omega), List.getElem?_eq_getElem (by omega)⟩
        obtain ⟨_, bb, rfl, hF⟩ := flat_at (toH l h32) l (toH_vals l h32) h32 j a hja
        obtain ⟨_, y, hy, hry⟩ := hrb.2 j _ hja
        cases hry
        refine ⟨?_, by simp [World.frozen?, hvs]⟩
        rw [cell_of_block hvs, Nat.zero_add, hy, hF]
        rfl
      have hcalls := sort_calls b 0 cap (toH l h32) w hH dlt (by rw [hsz]; exact hc.2)
      rw [hsz] at hcalls
      refine hcalls.mono fun e w' A => ?_
      obtain ⟨rfl, d', nn, os, hperm, hsort, rfl⟩ := A
      have hd's : d'.size = n := by rw [hperm.1, hsz]
      have em : d'.toList.map (·.1) = sortD l := by
        refine asc_unique _ _ ?_ (asc_sortD l) ?_
        · refine List.pairwise_iff_getElem.2 fun p q hp hq hpq => ?_
          simp only [List.length_map, Array.length_toList] at hp hq
          have := hsort p q (Nat.zero_le _) hpq (by omega)
          rw [ltH, getElem!_pos d' q hq, getElem!_pos d' p hp] at this
          simpa using this
        · have h2 := hperm.2.2
          have e1 : d'.extract 0 n = d' := by rw [← hd's]; simp
          have e2 : (toH l h32).extract 0 n = toH l h32 := by rw [← hsz]; simp
          rw [e1, e2] at h2
          have h3 := h2.map (·.1)
          rw [toH_vals] at h3
          exact h3.trans (sortD_perm l).symm
      have hs32 : All32 (sortD l) := fun y hy => h32 y (mem_sortD.1 hy)
      have hslen : (sortD l).length = n := by rw [(sortD_perm l).length_eq, hn]
      have hrsl : (rows (sortD l)).length = n * 32 := by rw [rows_len hs32, hslen]
      have hahead : (Sort.ahead w nn).heap[b]? = some (.cells vs el (0, 0)) := hvs
      obtain ⟨p1, p2, p3⟩ := putRow_block hahead (flatK vH 32 d')
      have hw1 : ∀ k, k < w.heap.size → (grow (Sort.ahead w nn) os).heap[k]? = w.heap[k]? := by
        intro k hk
        show (w.heap ++ os)[k]? = _
        rw [Array.getElem?_append_left hk]
      obtain ⟨I1, e1⟩ := inv_heap (w' := grow (Sort.ahead w nn) os) I hw1 (by simp [Sort.ahead]) ⟨rfl, rfl, rfl, by simp [grow, Sort.ahead]⟩
      have q0 : ∀ k, (grow (putRow id (Sort.ahead w nn) b 0 (flatK vH 32 d')) os).heap[k]? = if k < w.heap.size then (putRow id (Sort.ahead w nn) b 0 (flatK vH 32 d')).heap[k]? else os[k - w.heap.size]? := by
        intro k
        show ((putRow id (Sort.ahead w nn) b 0 (flatK vH 32 d')).heap ++ os)[k]? = _
        have p3' : (putRow id (Sort.ahead w nn) b 0 (flatK vH 32 d')).heap.size = w.heap.size := p3
        split
        · rw [Array.getElem?_append_left (by omega)]
        · rw [Array.getElem?_append_right (by omega), p3']
      have same' : live [] (S.set i (.mem (rows (sortD l)) bt false)) mu = live [] S mu := by
        funext id
        rw [live_set (tips := []) (S := S) hb di]
        cases id with
        | fr n => rfl
        | bx k j => by_cases hk : k = i
                    · subst hk; simp [live, hb, hS]
                    · simp [hk]
      have hcell : ∀ (j : Nat) (a : AV), (rows (sortD l))[j]? = some a → ∃ bb, a = cellB bb ∧ (putCells id 0 (flatK vH 32 d') vs)[j]? = some (vB bb) := by
        intro j a hj
        obtain ⟨hlt, bb, rfl, hF⟩ := flat_at d' (sortD l) em hs32 j a hj
        refine ⟨bb, rfl, ?_⟩
        have hjv : j < vs.size := by have := hrb.1; have := lt_of_get hj; omega
        simp only [putCells, Array.getElem?_mapIdx, Array.getElem?_eq_getElem hjv, Option.map_some]
        rw [if_pos ⟨Nat.zero_le _, by rw [size_flatK]; omega⟩]
        show some (flatK vH 32 d')[j - 0]! = _
        rw [Nat.sub_zero, hF]
      obtain ⟨I2, e2⟩ := inv_write (w' := grow (putRow id (Sort.ahead w nn) b 0 (flatK vH 32 d')) os) (cs' := rows (sortD l)) (bt' := bt) (tips' := []) (ti' := ti) (vs' := putCells id 0 (flatK vH 32 d') vs) I1 hS hb
        (by rw [hw1 b dlt]; exact hvs) (by rw [q0, if_pos dlt]; exact p1)
        (fun k hk => by
          rw [q0]
          split
          · rename_i hlt; rw [p2 k hk, hw1 k hlt]; rfl
          · rename_i hge
            show _ = (w.heap ++ os)[k]?
            rw [Array.getElem?_append_right (by omega)])
        (by simp only [size_grow]; rw [p3])
        ⟨rfl, rfl, rfl, Nat.le_refl _⟩
        ⟨by rw [hrsl]; simp [putCells]; have := hrb.1; omega, fun j x hj => by
          obtain ⟨bb, rfl, h2⟩ := hcell j x hj
          exact ⟨rfl, _, h2, .int _ _⟩⟩
        (fun j x y hx _ => by
          obtain ⟨bb, rfl, _⟩ := hcell j x hx
          exact ⟨rfl, trivial⟩)
        (by rw [same']; exact LvExt.refl _ _) (by rw [same']; exact fun id L h => ⟨id, h, rfl⟩) (by rw [same']; exact I.itinj)
      refine ⟨_, rfl, mu, hw, ti, I2, e1.trans e2, ?_, ?_, ?_, fun k hk hlt => ⟨?_, hk⟩⟩
      · show LvExt _ _ (live [] (S.set i (.mem (rows (sortD l)) bt false)) mu) ti
        rw [same']; exact LvExt.refl _ _
      · exact RV.tup (w := grow (putRow id (Sort.ahead w nn) b 0 (flatK vH 32 d')) os) (mu := mu) (hw := hw) (lk := lkS (S.set i (.mem (rows (sortD l)) bt false)) mu) [] (fun _ => .bool false) (by simp)
      · intro arr _ j x y hx; simp [takeRet, takeResL] at hx
      · exact List.getElem?_set_ne (fun e => by subst e; rw [hb] at hk; cases hk)
    | _ => cases hx
  · cases h
theorem sort_old : CallOld (fun g args S => if g = SORTH then sortHsP CMPH args S else none) := by
  intro f args S r S' h
  simp only at h
  split at h
  case isFalse => cases h
  unfold sortHsP at h
  split at h
  · split at h
    · cases h
      exact ⟨Nat.le_refl _, by simp [fineRes], Keeps.refl _ _, fun i cs bt l hi hS => by have := lt_of_get hS; omega⟩
    · cases h
  · split at h
    case isFalse => cases h
    split at h
    case h_2 => cases h
    rename_i cs bt hS
    split at h
    case isFalse => cases h
    rename_i hc
    split at h
    case h_2 => cases h
    rename_i z es he
    simp only [Option.map_eq_some_iff, Prod.mk.injEq] at h
    obtain ⟨l, hu, rfl, rfl⟩ := h
    have hp : plainL (rows (sortD l)) = true := plainL_iff.2 fun x hx => by
      simp only [rows, List.mem_flatten, List.mem_map] at hx
      obtain ⟨c, ⟨y, _, rfl⟩, hx⟩ := hx
      exact (datL_encB y x hx).plain
    obtain ⟨e, h32, hn⟩ := names_of_box hS hc.1 he hu
    have hrl : (rows (sortD l)).length = cs.length := by
      rw [rows_len fun y hy => h32 y (mem_sortD.1 hy), (sortD_perm l).length_eq, hn, hc.1]
    have hw := Keeps.write (nb := S.length) (off := 0) (bt' := bt) (l' := false) (new := rows (sortD l)) hS (.inr fun m q _ => plainL_lt m q _ hp)
    rw [splice_all hrl] at hw
    refine ⟨by simp, by simp [fineRes], hw, fun k cs' bt' l' hi hk2 => ?_⟩
    have := lt_of_get hk2
    simp at this
    omega
  · cases h
theorem nk_ok : PrimOK Tryz.prog nk := by
  have one : ∀ f p, nk.prim f = some p → f = SORTH ∧ p = sortHsP CMPH := by
    intro f p h
    simp only [nk, prims, List.lookup] at h
    split at h
    · rename_i e
      cases h
      exact ⟨by simpa using e, rfl⟩
    · simp at h
  refine ⟨fun f p h => ?_, fun f p h => ?_⟩
  · obtain ⟨rfl, rfl⟩ := one f p h
    exact sort_sim
  · obtain ⟨rfl, rfl⟩ := one f p h
    exact sort_old
end Go.Proofs.YtmibdjbhjjafnaaGreat.am
