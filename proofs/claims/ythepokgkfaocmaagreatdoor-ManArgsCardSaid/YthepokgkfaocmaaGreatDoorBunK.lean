/- Texts PlainName, ManA in one. No conditions. -/
import Derived.Lib.AtoiAll
import Derived.Lib.ItoaNum
import Derived.Lib.Strings
import Derived.Test.YthepokgkfaocmaaGreatDoorBunF
import Derived.Test.YthepokgkfaocmaaGreatDoorBunJ
import Derived.Lib.LaidTab
import Derived.Lib.SmallJoins
import Derived.Lib.AppendIntMem
import Derived.Lib.ItoaLen

/-
  Names of files as plain texts: kind, point, digits; and back.
-/
namespace Go.Proofs.YthepokgkfaocmaaGreatDoor
open Go

namespace Mn
open Go.Lib
theorem parse_append : ∀ (l r : List UInt8) (acc : Nat), parseUint10 acc (l ++ r) = match parseUint10 acc l with
    | .ok u => parseUint10 u r
    | x => x
  | [], r, acc => by simp [parseUint10]
  | c :: l, r, acc => by
    simp only [List.cons_append, parseUint10]
    split
    · split
      · rfl
      · split
        · rfl
        · exact parse_append l r _
    · rfl
theorem digit_toNat (d : Nat) (h : d < 10) : (UInt8.ofNat (48 + d)).toNat = 48 + d := by
  rw [UInt8.toNat_ofNat_of_lt']
  show 48 + d < 256
  omega
theorem parse_digits (u : Nat) (h : u < 9223372036854775808) : parseUint10 0 (decDigits u) = .ok u := by
  induction u using Nat.strongRecOn with
  | _ u ih =>
    rw [decDigits]
    split
    · rename_i h1
      have e := digit_toNat u h1
      simp only [parseUint10, e]
      rw [if_pos (by omega), if_neg (by omega), if_neg (by omega)]
      congr 1
      omega
    · rename_i h1
      have e := digit_toNat (u % 10) (Nat.mod_lt _ (by omega))
      rw [parse_append, ih (u / 10) (by omega) (by omega)]
      simp only [parseUint10, e]
      rw [if_pos (by omega), if_neg (by omega), if_neg (by omega)]
      congr 1
      omega
theorem digits_all (u : Nat) : ∀ c ∈ decDigits u, 48 ≤ c.toNat ∧ c.toNat ≤ 57 := by
  induction u using Nat.strongRecOn with
  | _ u ih =>
    rw [decDigits]
    split
    · rename_i h1
      intro c hc
      rw [List.mem_singleton.1 hc, digit_toNat u h1]
      omega
    · intro c hc
      rcases List.mem_append.1 hc with hc | hc
      · exact ih (u / 10) (by omega) c hc
      · rw [List.mem_singleton.1 hc, digit_toNat _ (Nat.mod_lt _ (by omega))]
        omega
theorem digits_len (u : Nat) : ∀ k, u < 10 ^ (k + 1) → 1 ≤ (decDigits u).length ∧ (decDigits u).length ≤ k + 1 := by
  induction u using Nat.strongRecOn with
  | _ u ih =>
    intro k hk
    rw [decDigits]
    split
    · simp
    · rcases k with _ | k
      · omega
      · have := ih (u / 10) (by omega) k (by
          have h2 : 10 ^ (k + 1 + 1) = 10 ^ (k + 1) * 10 := Nat.pow_succ 10 (k + 1)
          omega)
        simp only [List.length_append, List.length_singleton]
        omega
theorem atoi_digits (u : Nat) (h : u < 9223372036854775808) : atoiAll (decDigits u) = .ok (u : Int) := by
  have hl := (digits_len u 19 (by omega)).1
  have ha := digits_all u
  have hp := parse_digits u h
  cases hd : decDigits u with
  | nil => rw [hd] at hl; simp at hl
  | cons c r =>
    rw [hd] at ha hp
    have hc := ha c (by simp)
    unfold atoiAll parseMag
    simp only
    rw [if_neg (by omega : ¬(c.toNat = 43 ∨ c.toNat = 45)), if_neg (by simp : ¬(c :: r = [])), hp]
    simp only
    rw [if_neg (by omega), if_neg (by omega), if_neg (by omega)]

def kLog : List UInt8 := [108, 111, 103]
def kTab : List UInt8 := [116, 97, 98]
def kMan : List UInt8 := [109, 97, 110]
def isKind (k : List UInt8) : Bool := k == kLog || (k == kTab || k == kMan)
def fits (n : Int) : Bool := decide (1 ≤ n) && decide (n ≤ 1073741824)
/-- A file's name; of what may not be: empty. -/
def name (kind : List UInt8) (n : Int) : List UInt8 := if fits n && isKind kind then kind ++ [46] ++ itoa n else []
def okOf : NumEnd Int → Option Int
  | .ok v => some v
  | _ => none
/-- The number of a name of a kind. -/
def number (s kind : List UInt8) : Option Int :=
  if hasPrefix s (kind ++ [46]) then match okOf (atoiAll (s.drop (kind.length + 1))) with
    | some v => if name kind v = s then some v else none
    | none => none
  else none
theorem name_digits {kind : List UInt8} {n : Int} (h : (fits n && isKind kind) = true) : name kind n = kind ++ [46] ++ decDigits n.toNat := by
  have h1 : 1 ≤ n := by simp [fits] at h; omega
  rw [name, if_pos h, itoa, if_neg (by omega)]
theorem number_some {s kind : List UInt8} {v : Int} (h : number s kind = some v) : name kind v = s := by
  unfold number at h
  split at h
  · split at h
    · split at h
      · injection h with h
        subst h
        assumption
      · cases h
    · cases h
  · cases h
theorem number_name {kind : List UInt8} {n : Int} (h : (fits n && isKind kind) = true) : number (name kind n) kind = some n := by
  have h1 : 1 ≤ n ∧ n ≤ 1073741824 := by simp [fits] at h; omega
  have e := name_digits h
  unfold number
  have hp : hasPrefix (name kind n) (kind ++ [46]) = true := by
    rw [e, hasPrefix, List.isPrefixOf_iff_prefix]
    exact List.prefix_append _ _
  have hd : (name kind n).drop (kind.length + 1) = decDigits n.toNat := by
    rw [e, List.drop_append_of_le_length (by simp)]
    simp
  rw [if_pos hp, hd, atoi_digits n.toNat (by omega)]
  simp only [okOf]
  rw [if_pos (by rw [show ((n.toNat : Nat) : Int) = n by omega])]
  congr 1
  omega
theorem name_len {kind : List UInt8} {n : Int} (h : name kind n ≠ []) : kind.length = 3 ∧ 5 ≤ (name kind n).length ∧ (name kind n).length ≤ 14 := by
  by_cases hf : (fits n && isKind kind) = true
  · rw [name_digits hf]
    have h1 : 1 ≤ n ∧ n ≤ 1073741824 := by simp [fits] at hf; omega
    have hl := digits_len n.toNat 9 (by omega)
    have hk : kind.length = 3 := by
      simp only [Bool.and_eq_true, isKind, Bool.or_eq_true, beq_iff_eq] at hf
      rcases hf.2 with h2 | h2 | h2 <;> rw [h2] <;> rfl
    simp only [List.length_append, List.length_singleton]
    omega
  · exact absurd (by rw [name, if_neg hf]) h
/-- A name of a kind may be a disk's. -/
theorem name_named {kind : List UInt8} {n : Int} (h : (fits n && isKind kind) = true) : Sd.named (name kind n) = true := by
  have hne : name kind n ≠ [] := by rw [name_digits h]; simp
  obtain ⟨_, h2, h3⟩ := name_len hne
  unfold Sd.named
  rw [decide_eq_true (by omega), decide_eq_true (by omega), name_digits h, List.all_append, List.all_append]
  have hk : kind.all Sd.okCh = true := by
    simp only [Bool.and_eq_true, isKind, Bool.or_eq_true, beq_iff_eq] at h
    rcases h.2 with h2 | h2 | h2 <;> rw [h2] <;> decide
  have hd : (decDigits n.toNat).all Sd.okCh = true := by
    rw [List.all_eq_true]
    intro c hc
    have := digits_all _ c hc
    simp [Sd.okCh, this]
  rw [hk, hd]
  decide
theorem name_inj {kind : List UInt8} {n m : Int} (h : (fits n && isKind kind) = true) (e : name kind m = name kind n) : m = n := by
  have hm : (fits m && isKind kind) = true := by
    by_cases h1 : (fits m && isKind kind) = true
    · exact h1
    · rw [name, if_neg h1] at e
      rw [name_digits h] at e
      simp at e
  have h1 := number_name h
  rw [← e, number_name hm] at h1
  injection h1
end Mn
end Go.Proofs.YthepokgkfaocmaaGreatDoor

/-
  The walks of man.Name, man.Number; the variables of strconv that they read.
-/
namespace Go.Proofs.YthepokgkfaocmaaGreatDoor
open Go Go.RowKit Go.Shelf

/-- strconv's table and its two errors, as the program lays them. -/
structure Env (w : World) : Prop where
  tab : Lib.TabIs Tryz.prog w "internal/strconv.uint64pow10" .u64 Lib.pow10Tab
  syn : ∃ t p, w.var? Tryz.prog "strconv.ErrSyntax" = some #[.iface t p]
  rng : ∃ t p, w.var? Tryz.prog "strconv.ErrRange" = some #[.iface t p]
/-- The block of a variable. -/
noncomputable def gOf (n : String) : Nat := (Tryz.prog.globalNamed n).getD 0
/-- Their blocks stand below this. -/
noncomputable def NG : Nat := max (gOf "internal/strconv.uint64pow10") (max (gOf "strconv.ErrSyntax") (gOf "strconv.ErrRange")) + 1
theorem var_chg {w w' : World} {G : List Nat} {n : String} {cs : Array Value} {g : Nat} (hg : Tryz.prog.globalNamed n = some g) (h : w.var? Tryz.prog n = some cs) (c : Chg G w w') (hG : g ∉ G) : w'.var? Tryz.prog n = some cs := by
  unfold World.var? at h ⊢
  rw [hg] at h ⊢
  simp only [Option.bind_some] at h ⊢
  have hb : w'.heap[g]? = w.heap[g]? := c.block g (by
    cases he : w.heap[g]? with
    | none => rw [he] at h; cases h
    | some o => exact (Array.getElem?_eq_some_iff.1 he).1) hG
  rw [hb]
  exact h
theorem glob_of {n : String} (h : (Tryz.prog.globalNamed n).isSome = true) : Tryz.prog.globalNamed n = some (gOf n) := by
  unfold gOf
  cases hg : Tryz.prog.globalNamed n with
  | none => rw [hg] at h; cases h
  | some g => rfl
theorem glob1 : Tryz.prog.globalNamed "internal/strconv.uint64pow10" = some (gOf "internal/strconv.uint64pow10") := glob_of (by kernel_rfl)
theorem glob2 : Tryz.prog.globalNamed "strconv.ErrSyntax" = some (gOf "strconv.ErrSyntax") := glob_of (by kernel_rfl)
theorem glob3 : Tryz.prog.globalNamed "strconv.ErrRange" = some (gOf "strconv.ErrRange") := glob_of (by kernel_rfl)
theorem var_lt {w : World} {n : String} {cs : Array Value} {g : Nat} (hg : Tryz.prog.globalNamed n = some g) (h : w.var? Tryz.prog n = some cs) : g < w.heap.size := by
  unfold World.var? at h
  rw [hg] at h
  simp only [Option.bind_some] at h
  cases he : w.heap[g]? with
  | none => rw [he] at h; cases h
  | some o => exact (Array.getElem?_eq_some_iff.1 he).1
theorem Env.base {w : World} (h : Env w) : NG ≤ w.heap.size := by
  obtain ⟨h1, ⟨t2, p2, h2⟩, ⟨t3, p3, h3⟩⟩ := h
  have l1 := var_lt glob1 h1
  have l2 := var_lt glob2 h2
  have l3 := var_lt glob3 h3
  unfold NG
  omega
theorem Env.chg {w w' : World} {G : List Nat} (h : Env w) (c : Chg G w w') (hG : ∀ g ∈ G, NG ≤ g) : Env w' := by
  have e1 := glob1
  have e2 := glob2
  have e3 := glob3
  have l1 : gOf "internal/strconv.uint64pow10" < NG := by unfold NG; omega
  have l2 : gOf "strconv.ErrSyntax" < NG := by unfold NG; omega
  have l3 : gOf "strconv.ErrRange" < NG := by unfold NG; omega
  obtain ⟨h1, ⟨t2, p2, h2⟩, ⟨t3, p3, h3⟩⟩ := h
  exact ⟨var_chg e1 h1 c (fun hm => by have := hG _ hm; omega), ⟨t2, p2, var_chg e2 h2 c (fun hm => by have := hG _ hm; omega)⟩, ⟨t3, p3, var_chg e3 h3 c (fun hm => by have := hG _ hm; omega)⟩⟩
theorem Env.below {w w' : World} (h : Env w) (hb : Below w.heap.size w w') : Env w' := h.chg (Chg.of_below hb []) (fun g hg => by cases hg)

set_option maxRecDepth 100000 in
set_option maxHeartbeats 1000000 in
theorem name_any (k : ByteArray) (hk : k.size ≤ 1000) (n : Int) (hn : -9223372036854775808 ≤ n ∧ n ≤ 9223372036854775807) (w : World) (h : Env w) :
    Calls Tryz.prog 22 #[.string k, .int .i64 n] w fun e w' => e = .returned (.string (str (Mn.name k.data.toList n))) ∧ Below w.heap.size w w' := by
  by_cases hf : Mn.fits n = true
  · have h1 : 1 ≤ n ∧ n ≤ 1073741824 := by simp [Mn.fits] at hf; omega
    obtain ⟨h1, h2⟩ := h1
    have e0 : (n < 1) = False := by simp; omega
    have e1 : ((1073741824 : Int) < n) = False := by simp; omega
    by_cases hkd : Mn.isKind k.data.toList = true
    · have hnm : Mn.name k.data.toList n = k.data.toList ++ [46] ++ Lib.itoa n := by rw [Mn.name, if_pos (by simp [hf, hkd])]
      have hres : (str (Mn.name k.data.toList n)) = k ++ ⟨#[46]⟩ ++ ⟨(Lib.itoa n).toArray⟩ := by
        rw [hnm]
        apply ByteArray.ext
        simp [str]
      rw [hres]
      have hit := Any.strconv_Itoa Tryz.laysM171 n hn.1 hn.2 w h.tab
      have hlen := Lib.itoa_length_le n hn.1 hn.2
      clear hnm hres h hf
      have hk3 : k = str Mn.kLog ∨ k = str Mn.kTab ∨ k = str Mn.kMan := by
        simp only [Mn.isKind, Bool.or_eq_true, beq_iff_eq] at hkd
        rw [← str_list k]
        rcases hkd with h | h | h <;> rw [h] <;> simp
      clear hkd
      rcases hk3 with rfl | rfl | rfl
      all_goals
        unfold str
        first | unfold Mn.kLog | unfold Mn.kTab | unfold Mn.kMan
        go_enter Tryz.func22, Tryz.ntmps22
        go_wp2_with fail
        refine hit.mono ?_
        rintro e w1 ⟨rfl, q, os, rfl⟩
        go_wp2
        go_ret
        exact ⟨rfl, Lib.below_grow _ _ (Nat.le_refl _) _ _⟩
    · have hnm : Mn.name k.data.toList n = [] := by rw [Mn.name, if_neg (by simp [hkd])]
      have hes : str [] = ⟨#[]⟩ := rfl
      rw [hnm, hes]
      have hb : ∀ l : List UInt8, k.data.toList ≠ l → (k.toList == l) = false := fun l h => by
        rw [ByteArray.toList_eq]
        simpa using h
      have hd : k.data.toList ≠ Mn.kLog ∧ k.data.toList ≠ Mn.kTab ∧ k.data.toList ≠ Mn.kMan := by
        simpa [Mn.isKind] using hkd
      obtain ⟨d1, d2, d3⟩ := hd
      have b1 := hb _ d1
      have b2 := hb _ d2
      have b3 := hb _ d3
      unfold Mn.kLog at b1
      unfold Mn.kTab at b2
      unfold Mn.kMan at b3
      clear hb hnm hes d1 d2 d3 hkd hf h
      go_enter Tryz.func22, Tryz.ntmps22
      go_wp2
      go_ret
      exact ⟨rfl, Below.refl _ _⟩
  · have he : Mn.name k.data.toList n = [] := by rw [Mn.name, if_neg (by simp [hf])]
    rw [he]
    have hes : str [] = ⟨#[]⟩ := rfl
    rw [hes]
    have h1 : n < 1 ∨ 1073741824 < n := by simp [Mn.fits] at hf; omega
    clear he hf
    rcases h1 with h1 | h1
    · go_enter Tryz.func22, Tryz.ntmps22
      go_wp2
      go_ret
      exact ⟨rfl, Below.refl _ _⟩
    · have h2 : (n < 1) = False := by simp; omega
      go_enter Tryz.func22, Tryz.ntmps22
      go_wp2
      go_ret
      exact ⟨rfl, Below.refl _ _⟩

theorem atoi_any (s : ByteArray) (hs : s.size ≤ 1000000) (w : World) (h : Env w) :
    Calls Tryz.prog 53 #[.string s] w fun e w' => ∃ (v : Int) (ev : Value), e = .returned (.tuple #[.int .i64 v, ev]) ∧ ((Mn.okOf (Lib.atoiAll s.data.toList) = some v ∧ ev = .nilIface ∧ -9223372036854775808 ≤ v ∧ v ≤ 9223372036854775807) ∨ (Mn.okOf (Lib.atoiAll s.data.toList) = none ∧ ∃ t p, ev = .iface t p)) ∧ Below w.heap.size w w' := by
  cases ha : Lib.atoiAll s.data.toList with
  | ok v =>
    refine (Any.strconv_Atoi_ok Tryz.laysC172 s (by omega) v ha w).mono ?_
    rintro e w1 ⟨rfl, h1⟩
    refine ⟨_, _, rfl, .inl ⟨rfl, rfl, Lib.atoiAll_bounds ha⟩, ?_⟩
    rcases h1 with rfl | ⟨t, rfl⟩
    · exact Below.refl _ _
    · exact Joins.below_bytesWorld _ _ _ _ (Nat.le_refl _)
  | range =>
    obtain ⟨tp, p, hv⟩ := h.rng
    refine (Any.strconv_Atoi_range_var Tryz.laysC172 s (by omega) ha tp p w hv).mono ?_
    rintro e w1 ⟨N, rfl, _, _, hb⟩
    exact ⟨_, _, rfl, .inr ⟨rfl, _, _, rfl⟩, hb⟩
  | _ =>
    obtain ⟨tp, p, hv⟩ := h.syn
    refine (Any.strconv_Atoi_syntax_var Tryz.laysC172 s (by omega) ha tp p w hv).mono ?_
    rintro e w1 ⟨N, rfl, _, _, hb⟩
    exact ⟨_, _, rfl, .inr ⟨rfl, _, _, rfl⟩, hb⟩
def numV (o : Option Int) : Value := match o with
  | some v => .tuple #[.int .i64 v, .bool true]
  | none => .tuple #[.int .i64 0, .bool false]

set_option maxRecDepth 100000 in
set_option maxHeartbeats 1000000 in
theorem number_any (s k : ByteArray) (hs : s.size ≤ 100000) (hk : k.size ≤ 1000) (w : World) (h : Env w) :
    Calls Tryz.prog 23 #[.string s, .string k] w fun e w' => e = .returned (numV (Mn.number s.data.toList k.data.toList)) ∧ Below w.heap.size w w' := by
  have hcut := fun p => Any.strings_CutPrefix Tryz.lays103 s p w
  have hat := fun u hu w1 hw1 => atoi_any u hu w1 hw1
  have hpre : (k ++ ⟨#[46]⟩).data.toList = k.data.toList ++ [46] := by simp
  have hcut := hcut (k ++ ⟨#[46]⟩)
  rw [hpre] at hcut
  cases hp : Lib.hasPrefix s.data.toList (k.data.toList ++ [46]) with
  | false =>
    have hn : Mn.number s.data.toList k.data.toList = none := by rw [Mn.number, if_neg (by simp [hp])]
    rw [hn, numV]
    have htr : Lib.trimPrefix s.data.toList (k.data.toList ++ [46]) = s.data.toList := by rw [Lib.trimPrefix, if_neg (by simp [hp])]
    rw [hp, htr] at hcut
    have hss : (⟨s.data.toList.toArray⟩ : ByteArray) = s := by simp
    rw [hss] at hcut
    have hat := hat s (by omega) w h
    clear hp hn htr hpre hss
    go_enter Tryz.func23, Tryz.ntmps23
    go_wp2_with fail
    refine hcut.mono ?_
    rintro e w1 ⟨rfl, rfl⟩
    go_wp2_with fail
    refine hat.mono ?_
    rintro e w1 ⟨v, ev, rfl, hev, hb⟩
    go_wp2
    go_ret2
    exact ⟨rfl, hb⟩
  | true =>
    have htr : Lib.trimPrefix s.data.toList (k.data.toList ++ [46]) = s.data.toList.drop (k.data.toList.length + 1) := by rw [Lib.trimPrefix, if_pos hp]; simp
    rw [hp, htr] at hcut
    obtain ⟨T, hT⟩ : ∃ T : ByteArray, T = ⟨(s.data.toList.drop (k.data.toList.length + 1)).toArray⟩ := ⟨_, rfl⟩
    have hTl : T.data.toList = s.data.toList.drop (k.data.toList.length + 1) := by rw [hT]
    have hTs : T.size ≤ 1000000 := by
      have : T.size = T.data.toList.length := by simp
      rw [this, hTl, List.length_drop]
      have : s.data.toList.length = s.size := by simp
      omega
    rw [← hT] at hcut
    have hat := hat T hTs w h
    rw [hTl] at hat
    have hnum : Mn.number s.data.toList k.data.toList = match Mn.okOf (Lib.atoiAll (s.data.toList.drop (k.data.toList.length + 1))) with
      | some v => if Mn.name k.data.toList v = s.data.toList then some v else none
      | none => none := by rw [Mn.number, if_pos hp]; first | done | rfl
    cases hok : Mn.okOf (Lib.atoiAll (s.data.toList.drop (k.data.toList.length + 1))) with
    | none =>
      rw [hok] at hnum hat
      simp only at hnum
      rw [hnum, numV]
      have HAT := Lib.hid hat
      clear hat hp htr hpre hT hTl hTs hnum hok
      go_enter Tryz.func23, Tryz.ntmps23
      go_wp2_with fail
      refine hcut.mono ?_
      rintro e w1 ⟨rfl, rfl⟩
      go_wp2_with fail
      refine HAT.out.mono ?_
      rintro e w1 ⟨v, ev, rfl, hev, hb⟩
      rcases hev with ⟨h1, _⟩ | ⟨_, t, p, rfl⟩
      · cases h1
      · go_wp2
        go_ret2
        exact ⟨rfl, hb⟩
    | some v =>
      rw [hok] at hnum hat
      simp only at hnum
      have hw1 : ∀ w1, Below w.heap.size w w1 → Env w1 := fun w1 hb => h.below hb
      have hnm := fun (hv : -9223372036854775808 ≤ v ∧ v ≤ 9223372036854775807) w1 hb => name_any k hk v hv w1 (hw1 w1 hb)
      by_cases heq : Mn.name k.data.toList v = s.data.toList
      · rw [if_pos heq] at hnum
        rw [hnum, numV]
        rw [heq, str_list] at hnm
        have HAT := Lib.hid hat
        have HNM := Lib.hid hnm
        clear hat hp htr hpre hT hTl hTs hnum hok hnm heq hw1
        go_enter Tryz.func23, Tryz.ntmps23
        go_wp2_with fail
        refine hcut.mono ?_
        rintro e w0 ⟨rfl, hw0⟩
        obtain rfl := hw0.symm
        go_wp2_with fail
        refine HAT.out.mono ?_
        rintro e w1 ⟨v', ev, rfl, hev, hb⟩
        rcases hev with ⟨h1, rfl, hv⟩ | ⟨h1, _⟩
        · injection h1 with h1
          subst h1
          go_wp2_with fail
          refine (HNM.out hv w1 hb).mono ?_
          rintro e w2 ⟨rfl, hb2⟩
          have hb3 : Below w.heap.size w w2 := hb.trans (hb2.mono hb.size)
          go_wp2
          go_ret2
          exact ⟨rfl, hb3⟩
        · cases h1
      · rw [if_neg heq] at hnum
        rw [hnum, numV]
        have hne : ((str (Mn.name k.data.toList v)).toList == s.toList) = false := by
          rw [ByteArray.toList_eq, ByteArray.toList_eq, list_str]
          simpa using heq
        generalize str (Mn.name k.data.toList v) = nm at *
        have HAT := Lib.hid hat
        have HNM := Lib.hid hnm
        clear hat hp htr hpre hT hTl hTs hnum hok hnm heq hw1
        go_enter Tryz.func23, Tryz.ntmps23
        go_wp2_with fail
        refine hcut.mono ?_
        rintro e w0 ⟨rfl, hw0⟩
        obtain rfl := hw0.symm
        go_wp2_with fail
        refine HAT.out.mono ?_
        rintro e w1 ⟨v', ev, rfl, hev, hb⟩
        rcases hev with ⟨h1, rfl, hv⟩ | ⟨h1, _⟩
        · injection h1 with h1
          subst h1
          go_wp2_with fail
          refine (HNM.out hv w1 hb).mono ?_
          rintro e w2 ⟨rfl, hb2⟩
          have hb3 : Below w.heap.size w w2 := hb.trans (hb2.mono hb.size)
          go_wp2
          go_ret2
          exact ⟨rfl, hb3⟩
        · cases h1
end Go.Proofs.YthepokgkfaocmaaGreatDoor
