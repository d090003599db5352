/- Part 2 of what the proof stands on: Urn, Tk, Tre, W18b, W18c, Shelf, W18d, W18e, PatM, Pat, W17b. -/
import Derived.Test.YtadhiihnnkcagaaGreatDoorM2PA
import Derived.Lib.CountLaws
import Derived.Lib.Split
import Derived.Lib.ItoaNum
import Derived.Lib.IndexBytes
import Derived.Shelf.Strings.Builder1
import Derived.Shelf.Small.Utf8
import Derived.Shelf.Small.Strs
import Derived.Shelf.Utf8.RuneCount
import Derived.Shelf.Strconv.Itoa0
import Derived.Shelf.Strconv.Itoa1
import Derived.Shelf.LaysM
import Derived.Shelf.Strconv.Itoa2
import Derived.Shelf.Strconv.Itoa3
import Derived.Shelf.Strings.Search1
import Derived.Shelf.Strings.Search2
import Derived.Shelf.Strings.Search3
import Derived.Shelf.Strings.Cut
import Derived.Shelf.Strings.Count
import Derived.Shelf.Strings.Shaped
import Derived.Shelf.Strings.Prefix
import Derived.Shelf.Strings.Split
import Derived.Shelf.Strings.SplitShaped
import Derived.Shelf.Unicode.Decode
import Derived.Shelf.Strings.Runes
import Derived.Shelf.Strings.RuneCount
import Derived.Shelf.Strings.IndexAny
import Derived.Shelf.Strings.AsciiSet
import Derived.Shelf.Strings.IndexAnyAll
import Derived.Shelf.Unicode.DecodeSlow
import Derived.Shelf.Unicode.DecodeAny
import Derived.Ground.Names2Prog
import Derived.Shelf.Slices.Clone
import Derived.Test.YtadhiihnnkcagaaGreatDoorProg
import Derived.Test.YtadhiihnnkcagaaGreatDoorChecked
namespace Ul
open Pc Gk
set_option linter.unusedVariables false
set_option linter.unusedSimpArgs false
def partU (s : List UInt8) : Option (List UInt8) := if s.all standB then norm s else none
def spl : List UInt8 → List (List UInt8)
 | [] => [[]]
 | c :: r => if c = 47 then [] :: spl r else match spl r with
  | [] => [[c]]
  | h :: t => (c :: h) :: t
theorem spl_ne (s : List UInt8) : spl s ≠ [] := by
 cases s with
 | nil => simp [spl]
 | cons c r =>
  simp only [spl]
  split
  ·simp
  ·split <;> simp
theorem spl_none : ∀ (s : List UInt8), (∀ x ∈ s, x ≠ 47) → spl s = [s]
 | [], _ => rfl
 | c :: r, h => by
  rw [spl, if_neg (h c (by simp)), spl_none r (fun x hx => h x (by simp [hx]))]
theorem spl_hit : ∀ (a b : List UInt8), (∀ x ∈ a, x ≠ 47) → spl (a ++ 47 :: b) = a :: spl b
 | [], b, _ => by show spl (47 :: b) = _; rw [spl, if_pos rfl]
 | c :: r, b, h => by
  show spl (c :: (r ++ 47 :: b)) = _
  rw [spl, if_neg (h c (by simp)), spl_hit r b (fun x hx => h x (by simp [hx]))]
theorem split_at {s : List UInt8} {i : Nat} (h : s[i]? = some 47) (hno : ∀ k, k < i → s[k]? ≠ some 47) : spl s = s.take i :: spl (s.drop (i + 1)) := by
 have hi : i < s.length := (List.getElem?_eq_some_iff.1 h).1
 have e : s = s.take i ++ 47 :: s.drop (i + 1) := by
  conv => lhs; rw [← List.take_append_drop i s]
  rw [List.drop_eq_getElem_cons hi, (List.getElem?_eq_some_iff.1 h).2]
 conv => lhs; rw [e]
 refine spl_hit _ _ fun x hx ex => ?_
 obtain ⟨k, hk⟩ := List.mem_iff_getElem?.1 hx
 rw [List.getElem?_take] at hk
 split at hk
 ·rename_i hki
  exact hno k hki (by rw [hk, ex])
 ·cases hk
theorem splitK_spl : ∀ (n : Nat) (s : List UInt8), s.length ≤ n → Go.Lib.splitK [47] 0 (Go.Lib.count s [47]) s = spl s := by
 intro n
 induction n with
 | zero =>
  intro s h
  have : s = [] := List.eq_nil_of_length_eq_zero (by omega)
  subst this
  rfl
 | succ n ih =>
  intro s h
  have hge := Go.Lib.indexByte_ge s 47
  by_cases e : Go.Lib.indexByte s 47 = -1
  ·have hi : Go.Lib.index s [47] = -1 := by rw [Go.Lib.index_one]; exact e
   rw [Go.Lib.count_miss hi]
   refine (spl_none s fun x hx ex => ?_).symm
   obtain ⟨k, hk⟩ := List.mem_iff_getElem?.1 hx
   exact Go.Lib.indexByte_none e k (by rw [hk, ex])
  ·obtain ⟨i, hk⟩ : ∃ k : Nat, Go.Lib.indexByte s 47 = k := ⟨(Go.Lib.indexByte s 47).toNat, by omega⟩
   have hi : Go.Lib.index s [47] = i := by rw [Go.Lib.index_one]; exact hk
   obtain ⟨h1, h2⟩ := Go.Lib.indexByte_some hk
   have hlt : i < s.length := (List.getElem?_eq_some_iff.1 h1).1
   rw [Go.Lib.count_hit (by simp) hi, Nat.add_comm 1, Go.Lib.splitK, hi, if_neg (by simp), split_at h1 h2]
   show s.take ((i : Int).toNat + 0) :: Go.Lib.splitK [47] 0 (Go.Lib.count (s.drop (i + 1)) [47]) (s.drop ((i : Int).toNat + 1)) = _
   rw [Int.toNat_natCast, Nat.add_zero, ih (s.drop (i + 1)) (by rw [List.length_drop]; omega)]
theorem spl_len : ∀ (n : Nat) (s : List UInt8), s.length ≤ n → (spl s).length = Go.Lib.count s [47] + 1 := by
 intro n
 induction n with
 | zero =>
  intro s h
  have : s = [] := List.eq_nil_of_length_eq_zero (by omega)
  subst this
  rfl
 | succ n ih =>
  intro s h
  have hge := Go.Lib.indexByte_ge s 47
  by_cases e : Go.Lib.indexByte s 47 = -1
  ·have hi : Go.Lib.index s [47] = -1 := by rw [Go.Lib.index_one]; exact e
   rw [Go.Lib.count_miss hi, spl_none s fun x hx ex => ?_]
   ·rfl
   ·obtain ⟨k, hk⟩ := List.mem_iff_getElem?.1 hx
    exact Go.Lib.indexByte_none e k (by rw [hk, ex])
  ·obtain ⟨i, hk⟩ : ∃ k : Nat, Go.Lib.indexByte s 47 = k := ⟨(Go.Lib.indexByte s 47).toNat, by omega⟩
   have hi : Go.Lib.index s [47] = i := by rw [Go.Lib.index_one]; exact hk
   obtain ⟨h1, h2⟩ := Go.Lib.indexByte_some hk
   have hlt : i < s.length := (List.getElem?_eq_some_iff.1 h1).1
   rw [Go.Lib.count_hit (by simp) hi, split_at h1 h2, List.length_cons, ih (s.drop (i + 1)) (by rw [List.length_drop]; omega)]
   show _ = 1 + Go.Lib.count (s.drop (i + 1)) [47] + 1
   omega
def keep (k : List (List UInt8)) (x : List UInt8) : List (List UInt8) := if x = [46] then k else if x = [46, 46] then k.dropLast else k ++ [x]
def slashed (k : List (List UInt8)) : List UInt8 := (k.map (47 :: ·)).flatten
def isDot (x : List UInt8) : Bool := x == [46] || x == [46, 46]
def dots : List UInt8 → List UInt8
 | [] => []
 | c :: r => if c = 47 then slashed ((spl r).foldl keep []) ++ (if isDot ((spl r).getLastD []) || ((spl r).foldl keep []).length == 0 then [47] else []) else c :: r
theorem dots_nil (p : List UInt8) : (dots p == []) = (p == []) := by
 cases p with
 | nil => rfl
 | cons c r =>
  rw [show ((c :: r : List UInt8) == []) = false from rfl]
  rw [dots]
  split
  ·cases hk : (spl r).foldl keep [] with
   | nil => simp [slashed]
   | cons a b => simp [slashed]
  ·rfl
theorem slashed_app (k : List (List UInt8)) (x : List UInt8) : slashed (k ++ [x]) = slashed k ++ 47 :: x := by simp [slashed]
def tot (k : List (List UInt8)) : Nat := (k.map (fun x => x.length + 1)).sum
theorem slashed_len (k : List (List UInt8)) : (slashed k).length = tot k := by
 induction k with
 | nil => rfl
 | cons a b ih =>
  rw [tot, List.map_cons, List.sum_cons, slashed, List.map_cons, List.flatten_cons, List.length_append, List.length_cons]
  show _ + (slashed b).length = _
  rw [ih]; rfl
theorem spl_tot : ∀ (s : List UInt8), tot (spl s) = s.length + 1
 | [] => rfl
 | c :: r => by
  have ih := spl_tot r
  simp only [spl]
  split
  ·simp only [tot, List.map_cons, List.sum_cons] at ih ⊢
   simp only [List.length_nil, List.length_cons]
   omega
  ·split
   ·rename_i h; exact absurd h (spl_ne r)
   ·rename_i h
    rw [h] at ih
    simp only [tot, List.map_cons, List.sum_cons, List.length_cons] at ih ⊢
    omega
theorem len_tot (k : List (List UInt8)) : k.length ≤ tot k := by
 induction k with
 | nil => exact Nat.le_refl _
 | cons a b ih =>
  simp only [tot, List.map_cons, List.sum_cons, List.length_cons] at ih ⊢
  omega
theorem tot_app (a b : List (List UInt8)) : tot (a ++ b) = tot a + tot b := by simp [tot]
theorem tot_keep (k : List (List UInt8)) (x : List UInt8) : tot (keep k x) ≤ tot k + (x.length + 1) := by
 unfold keep
 split
 ·omega
 ·split
  ·rcases List.eq_nil_or_concat k with e | ⟨a, b, e⟩
   ·subst e; simp [tot]
   ·subst e
    rw [List.concat_eq_append, List.dropLast_concat, tot_app]
    omega
  ·rw [tot_app]; simp [tot]
theorem tot_fold (l : List (List UInt8)) : ∀ k, tot (l.foldl keep k) ≤ tot k + tot l := by
 induction l with
 | nil => intro k; simp [tot]
 | cons a b ih =>
  intro k
  have h1 := ih (keep k a)
  have h2 := tot_keep k a
  rw [List.foldl_cons]
  have : tot (a :: b) = a.length + 1 + tot b := by simp [tot]
  omega
def schemeOf (s : List UInt8) : Option (List UInt8 × List UInt8) :=
 if low (s.take 7) = [104, 116, 116, 112, 58, 47, 47] then some (http, s.drop 7)
 else if low (s.take 8) = [104, 116, 116, 112, 115, 58, 47, 47] then some (https, s.drop 8) else none
structure U where
 sch : List UInt8
 host : List UInt8
 port : Nat
 path : List UInt8
 query : List UInt8
 ask : Bool
def U0 : U := ⟨[], [], 0, [], [], false⟩
def uc (u : U) : List Go.Value := [S u.sch, S u.host, I64 (u.port : Nat), S u.path, S u.query, .bool u.ask]
def tailU (sch host : List UInt8) (port : Nat) (r : List UInt8) : U × Nat :=
 match partU (upto [63] r) with
 | none => (U0, 15)
 | some p => match partU ((from_ [63] r).drop 1) with
  | none => (U0, 15)
  | some q => (⟨sch, host, port, if p = [] then [47] else dots p, q, !(from_ [63] r).isEmpty⟩, 0)
def hostOf (r : List UInt8) : List UInt8 := low (upto [47, 63, 35, 58] r)
def behind (sch host : List UInt8) (r : List UInt8) : U × Nat :=
 if r.take 1 = [58] then
  if portOk (upto [47, 63, 35] (r.drop 1)) then tailU sch host (portV (upto [47, 63, 35] (r.drop 1)) sch) (from_ [47, 63, 35] (r.drop 1)) else (U0, 14)
 else tailU sch host 0 r
def pU (s : List UInt8) : U × Nat :=
 if 2000 < s.length then (U0, 2) else match schemeOf s with
 | none => (U0, 12)
 | some (sch, r) => if hostOk (hostOf r) then behind sch (hostOf r) (from_ [47, 63, 35, 58] r) else (U0, 13)
def origin (u : U) : List UInt8 := u.sch ++ [58, 47, 47] ++ u.host ++ (if u.port = 0 then [] else 58 :: Go.Lib.decDigits u.port)
def strU (u : U) : List UInt8 := origin u ++ u.path ++ (if u.ask then 63 :: u.query else [])
def nU (s : List UInt8) : List UInt8 × Nat := if (pU s).2 = 0 then (strU (pU s).1, 0) else ([], (pU s).2)
theorem lo_sign {c : UInt8} (h : lo c = 58 ∨ lo c = 47) : c = lo c := by
 have := all_bytes (p := fun c => !(lo c == 58 || lo c == 47) || c == lo c) (by decide +kernel) c
 simp only [Bool.or_eq_true, Bool.not_eq_true', Bool.or_eq_false_iff, beq_eq_false_iff_ne, beq_iff_eq] at this
 rcases this with h1 | h1
 ·rcases h with h | h
  ·exact absurd h h1.1
  ·exact absurd h h1.2
 ·exact h1
theorem low_drop (s : List UInt8) (k : Nat) : low (s.drop k) = (low s).drop k := by simp [low]
theorem low_take (s : List UInt8) (k : Nat) : low (s.take k) = (low s).take k := by simp [low]
theorem low_sign : ∀ (s : List UInt8), low s = [58, 47, 47] → s = [58, 47, 47]
 | [], h => by simp [low] at h
 | [_], h => by simp [low] at h
 | [_, _], h => by simp [low] at h
 | [a, b, c], h => by
  simp only [low, List.map_cons, List.map_nil, List.cons.injEq, and_true] at h
  obtain ⟨h1, h2, h3⟩ := h
  rw [lo_sign (.inl h1), h1, lo_sign (.inr h2), h2, lo_sign (.inr h3), h3]
 | _ :: _ :: _ :: _ :: _, h => by simp [low] at h
abbrev SIGN : List UInt8 := [58, 47, 47]
theorem occ_of {s : List UInt8} {i : Nat} (h : (s.drop i).take 3 = SIGN) : Go.Lib.occAt s SIGN i = true := by
 unfold Go.Lib.occAt
 rw [List.isPrefixOf_iff_prefix]
 rw [← h]
 exact List.take_prefix _ _
theorem of_occ {s : List UInt8} {i : Nat} (h : Go.Lib.occAt s SIGN i = true) : (s.drop i).take 3 = SIGN := by
 unfold Go.Lib.occAt at h
 rw [List.isPrefixOf_iff_prefix] at h
 obtain ⟨t, e⟩ := h
 rw [← e]; rfl
theorem sign_at {s : List UInt8} {k : Nat} {h : List UInt8} (hk : h.length = k) (hl : low (s.take (k + 3)) = h ++ SIGN) (hh : h.all (· != 58) = true) : Go.Lib.index s SIGN = k ∧ low (s.take k) = h := by
 have e1 : low (s.take k) = h := by
  have := congrArg (List.take k) hl
  rw [← low_take, List.take_take, Nat.min_eq_left (by omega), List.take_append_of_le_length (by omega), List.take_of_length_le (l := h) (by omega)] at this
  exact this
 have e2 : (s.drop k).take 3 = SIGN := by
  apply low_sign
  have := congrArg (List.drop k) hl
  rw [← low_drop, List.drop_take, show k + 3 - k = 3 by omega, List.drop_append_of_le_length (by omega), List.drop_of_length_le (l := h) (by omega)] at this
  exact this
 have hlen : k ≤ s.length := by
  have := congrArg List.length e1
  rw [low_len, List.length_take, hk] at this
  omega
 refine ⟨Go.Lib.index_first hlen (occ_of e2) (fun j hj => ?_), e1⟩
 cases ho : Go.Lib.occAt s SIGN j with
 | false => rfl
 | true =>
  have h3 := of_occ ho
  have h0 : s[j]? = some 58 := by
   have := congrArg (fun l => l[0]?) h3
   simpa [List.getElem?_take, List.getElem?_drop] using this
  have h4 : h[j]? = some 58 := by
   rw [← e1, low, List.getElem?_map, List.getElem?_take, if_pos hj, h0]; rfl
  have := List.all_eq_true.1 hh 58 (List.mem_of_getElem? h4)
  simp at this
theorem scheme_cut (s : List UInt8) : schemeOf s = (let c := Go.Lib.cut s SIGN; if c.2.2 = true ∧ (low c.1 = http ∨ low c.1 = https) then some (low c.1, c.2.1) else none) := by
 have none_of : ∀ (h : List UInt8) (k : Nat), h.length = k → Go.Lib.index s SIGN = (k : Nat) → low (s.take k) = h → low (s.take (k + 3)) = h ++ SIGN := by
  intro h k hk hi e
  have ho : Go.Lib.occAt s SIGN k = true := by
   rcases Go.Lib.index_spec s SIGN with ⟨h1, _⟩ | ⟨j, h1, _, h2, _⟩
   ·omega
   ·have : j = k := by omega
    subst this; exact h2
  have h3 := of_occ ho
  rw [List.take_add, low, List.map_append, h3]
  show low (s.take k) ++ _ = _
  rw [e]; rfl
 simp only [schemeOf]
 split
 ·rename_i h
  obtain ⟨hi, e⟩ := sign_at (s := s) (k := 4) (h := http) rfl h (by decide)
  have hc : Go.Lib.cut s SIGN = (s.take 4, s.drop 7, true) := by
   unfold Go.Lib.cut
   rw [hi, if_pos (by decide)]; rfl
  rw [hc]
  simp only
  rw [if_pos ⟨trivial, .inl e⟩, e]
 ·rename_i hn
  split
  ·rename_i h
   obtain ⟨hi, e⟩ := sign_at (s := s) (k := 5) (h := https) rfl h (by decide)
   have hc : Go.Lib.cut s SIGN = (s.take 5, s.drop 8, true) := by
    unfold Go.Lib.cut
    rw [hi, if_pos (by decide)]; rfl
   rw [hc]
   simp only
   rw [if_pos ⟨trivial, .inr e⟩, e]
  ·rename_i hn2
   refine (if_neg ?_).symm
   rintro ⟨hc, ho⟩
   unfold Go.Lib.cut at hc ho
   split at hc
   ·rename_i hi
    rw [if_pos hi] at ho
    obtain ⟨k, hk⟩ : ∃ k : Nat, Go.Lib.index s SIGN = k := ⟨(Go.Lib.index s SIGN).toNat, by omega⟩
    rw [hk, Int.toNat_natCast] at ho
    simp only at ho
    have hkl : k ≤ s.length := by
     have := Go.Lib.index_le s SIGN
     omega
    have hlen : (low (s.take k)).length = k := by rw [low_len, List.length_take]; omega
    rcases ho with ho | ho
    ·have k4 : k = 4 := by rw [← hlen, ho]; rfl
     subst k4
     exact hn (none_of http 4 rfl hk ho)
    ·have k5 : k = 5 := by rw [← hlen, ho]; rfl
     subst k5
     exact hn2 (none_of https 5 rfl hk ho)
   ·cases hc
theorem cut_one (s : List UInt8) (c : UInt8) : Go.Lib.cut s [c] = (upto [c] s, (from_ [c] s).drop 1, !(from_ [c] s).isEmpty) := by
 have hge := Go.Lib.indexByte_ge s c
 have key : Go.Lib.indexAny s [c] = Go.Lib.indexByte s c := by
  clear hge
  induction s with
  | nil => rfl
  | cons b l ih =>
   rw [Go.Lib.indexAny, Go.Lib.indexByte, ih]
   have : ([c].contains b) = (b == c) := by rw [List.contains_cons]; simp
   rw [this]
 unfold Go.Lib.cut
 rw [Go.Lib.index_one]
 by_cases e : Go.Lib.indexByte s c = -1
 ·rw [e, if_neg (by decide)]
  obtain ⟨h1, h2⟩ := cut_none (s := s) (ats := [c]) (by rw [key]; exact e)
  rw [h1, h2]; rfl
 ·obtain ⟨k, hk⟩ : ∃ k : Nat, Go.Lib.indexByte s c = k := ⟨(Go.Lib.indexByte s c).toNat, by omega⟩
  obtain ⟨h1, h2, h3⟩ := cut_hit (s := s) (ats := [c]) (i := k) (by rw [key]; exact hk)
  rw [hk, if_pos (by omega), h1, h2, Int.toNat_natCast, List.drop_drop]
  have : (s.drop k).isEmpty = false := by
   cases hd : s.drop k with
   | nil =>
    have := congrArg List.length hd
    rw [List.length_drop, List.length_nil] at this
    omega
   | cons a b => rfl
  rw [this]
  rfl
theorem dots_len (p : List UInt8) : (dots p).length ≤ p.length + 1 := by
 cases p with
 | nil => simp [dots]
 | cons c r =>
  rw [dots]
  split
  ·have h1 := tot_fold (spl r) []
   rw [spl_tot, show tot [] = 0 from rfl] at h1
   rw [List.length_append, slashed_len, List.length_cons]
   have : (if (isDot ((spl r).getLastD []) || ((spl r).foldl keep []).length == 0) = true then [47] else ([] : List UInt8)).length ≤ 1 := by split <;> simp
   omega
  ·simp
theorem upto_le (a s : List UInt8) : (upto a s).length ≤ s.length := by
 have := congrArg List.length (upto_from a s)
 rw [List.length_append] at this; omega
theorem from_le (a s : List UInt8) : (from_ a s).length ≤ s.length := by
 have := congrArg List.length (upto_from a s)
 rw [List.length_append] at this; omega
theorem part_le {s t : List UInt8} (h : partU s = some t) : t.length ≤ s.length := by
 unfold partU at h
 split at h
 ·exact norm_len s t h
 ·cases h
def SmallU (u : U) : Prop := u.sch.length ≤ 1000000 ∧ u.host.length ≤ 1000000 ∧ u.port ≤ 65535 ∧ u.path.length ≤ 10000000 ∧ u.query.length ≤ 10000000
theorem small0 : SmallU U0 := ⟨by decide, by decide, by decide, by decide, by decide⟩
theorem small_tail (sch host : List UInt8) (port : Nat) (r : List UInt8) (h1 : sch.length ≤ 1000000) (h2 : host.length ≤ 1000000) (h3 : port ≤ 65535) (h4 : r.length ≤ 100000) : SmallU (tailU sch host port r).1 := by
 unfold tailU
 split
 ·exact small0
 ·rename_i p hp
  split
  ·exact small0
  ·rename_i q hq
   have a1 := part_le hp
   have a2 := part_le hq
   have a3 := upto_le [63] r
   have a4 := from_le [63] r
   have a5 := dots_len p
   rw [List.length_drop] at a2
   refine ⟨h1, h2, h3, ?_, by show q.length ≤ _; omega⟩
   show (if p = [] then [47] else dots p).length ≤ _
   split
   ·simp
   ·omega
theorem port_le {s sch : List UInt8} (hp : portOk s = true) : portV s sch ≤ 65535 := by
 unfold portV
 split
 ·decide
 ·unfold portOk at hp
  simp only [Bool.and_eq_true, decide_eq_true_eq] at hp
  exact hp.2
theorem small_pU (s : List UInt8) : SmallU (pU s).1 := by
 unfold pU
 split
 ·exact small0
 ·split
  ·exact small0
  ·rename_i sch r hs
   split
   ·have hr : r.length ≤ 2000 ∧ sch.length ≤ 5 := by
     unfold schemeOf at hs
     split at hs
     ·injection hs with hs; injection hs with e1 e2; subst e1; subst e2; rw [List.length_drop]; exact ⟨by omega, by decide⟩
     ·split at hs
      ·injection hs with hs; injection hs with e1 e2; subst e1; subst e2; rw [List.length_drop]; exact ⟨by omega, by decide⟩
      ·cases hs
    have hh : (hostOf r).length ≤ 1000000 := by unfold hostOf; rw [low_len]; have := upto_le [47, 63, 35, 58] r; omega
    have a3 := from_le [47, 63, 35, 58] r
    unfold behind
    split
    ·split
     ·rename_i hp
      refine small_tail _ _ _ _ (by omega) hh (port_le hp) ?_
      have := from_le [47, 63, 35] ((from_ [47, 63, 35, 58] r).drop 1)
      rw [List.length_drop] at this
      omega
     ·exact small0
    ·exact small_tail _ _ _ _ (by omega) hh (by decide) (by omega)
   ·exact small0
theorem upto_from_len (a s : List UInt8) : (upto a s).length + (from_ a s).length = s.length := by
 have := congrArg List.length (upto_from a s)
 rw [List.length_append] at this; omega
end Ul
namespace Tk
open Pc Gk Ul
set_option linter.unusedVariables false
set_option linter.unusedSimpArgs false
def pre : Nat → List UInt8
 | 1 => [84, 71, 84]
 | 2 => [83, 84]
 | 3 => [80, 84]
 | 4 => [80, 71, 84]
 | 5 => [80, 71, 84, 73, 79, 85]
 | 6 => [76, 84]
 | _ => []
def hx (c : UInt8) : Option Nat := if 48 ≤ c && c ≤ 57 then some (c.toNat - 48) else if 97 ≤ c && c ≤ 102 then some (c.toNat - 87) else none
def hxS (n : Nat) : List UInt8 → Option Nat
 | [] => some n
 | c :: r => match hx c with
  | some d => hxS (16 * n + d) r
  | none => none
def drawOf (s : List UInt8) : Option Nat := if s.length = 16 then hxS 0 s else none
def kindOf (p : List UInt8) : Nat := if p = pre 1 then 1 else if p = pre 2 then 2 else if p = pre 3 then 3 else if p = pre 4 then 4 else if p = pre 5 then 5 else if p = pre 6 then 6 else 0
def parseT (s : List UInt8) : Option (Nat × Nat) :=
 if kindOf (upto [45] s) = 0 then none else (drawOf ((from_ [45] s).drop 1)).map fun d => (kindOf (upto [45] s), d)
theorem hx_lt {c : UInt8} {d : Nat} (h : hx c = some d) : d < 16 := by
 have := all_bytes (p := fun c => match hx c with | some d => decide (d < 16) | none => true) (by decide +kernel) c
 rw [h] at this
 simpa using this
theorem hxS_lt : ∀ (s : List UInt8) (n m k : Nat), n < 16 ^ k → hxS n s = some m → m < 16 ^ (k + s.length)
 | [], n, m, k, hn, h => by
  simp only [hxS, Option.some.injEq] at h
  subst h; exact hn
 | c :: r, n, m, k, hn, h => by
  rw [hxS] at h
  cases hc : hx c with
  | none => rw [hc] at h; cases h
  | some d =>
   rw [hc] at h
   have hd := hx_lt hc
   have := hxS_lt r (16 * n + d) m (k + 1) (by rw [Nat.pow_succ]; omega) h
   rw [List.length_cons, show k + (r.length + 1) = k + 1 + r.length by omega]; exact this
theorem draw_lt {s : List UInt8} {d : Nat} (h : drawOf s = some d) : d < 18446744073709551616 := by
 unfold drawOf at h
 split at h
 ·rename_i hl
  have := hxS_lt s 0 d 0 (by decide) h
  rw [hl] at this
  exact this
 ·cases h
def digs : Nat → Nat → List UInt8
 | 0, _ => []
 | k + 1, n => digs k (n / 16) ++ [if n % 16 < 10 then UInt8.ofNat (48 + n % 16) else UInt8.ofNat (87 + n % 16)]
theorem digs_len : ∀ (k n : Nat), (digs k n).length = k
 | 0, _ => rfl
 | k + 1, n => by rw [digs, List.length_append, digs_len k]; rfl
theorem hxS_app : ∀ (s t : List UInt8) (n : Nat), hxS n (s ++ t) = (hxS n s).bind fun m => hxS m t
 | [], _, _ => rfl
 | c :: r, t, n => by
  rw [List.cons_append, hxS, hxS]
  cases hx c with
  | none => rfl
  | some d => exact hxS_app r t _
theorem kind_le (p : List UInt8) : kindOf p ≤ 6 := by
 unfold kindOf
 by_cases h1 : p = pre 1
 ·rw [if_pos h1]; decide
 by_cases h2 : p = pre 2
 ·rw [if_neg h1, if_pos h2]; decide
 by_cases h3 : p = pre 3
 ·rw [if_neg h1, if_neg h2, if_pos h3]; decide
 by_cases h4 : p = pre 4
 ·rw [if_neg h1, if_neg h2, if_neg h3, if_pos h4]; decide
 by_cases h5 : p = pre 5
 ·rw [if_neg h1, if_neg h2, if_neg h3, if_neg h4, if_pos h5]; decide
 by_cases h6 : p = pre 6
 ·rw [if_neg h1, if_neg h2, if_neg h3, if_neg h4, if_neg h5, if_pos h6]; decide
 ·rw [if_neg h1, if_neg h2, if_neg h3, if_neg h4, if_neg h5, if_neg h6]; decide
theorem kind_is {p : List UInt8} (h : kindOf p ≠ 0) : p = pre (kindOf p) := by
 unfold kindOf at h ⊢
 by_cases h1 : p = pre 1
 ·rw [if_pos h1]; exact h1
 by_cases h2 : p = pre 2
 ·rw [if_neg h1, if_pos h2]; exact h2
 by_cases h3 : p = pre 3
 ·rw [if_neg h1, if_neg h2, if_pos h3]; exact h3
 by_cases h4 : p = pre 4
 ·rw [if_neg h1, if_neg h2, if_neg h3, if_pos h4]; exact h4
 by_cases h5 : p = pre 5
 ·rw [if_neg h1, if_neg h2, if_neg h3, if_neg h4, if_pos h5]; exact h5
 by_cases h6 : p = pre 6
 ·rw [if_neg h1, if_neg h2, if_neg h3, if_neg h4, if_neg h5, if_pos h6]; exact h6
 ·rw [if_neg h1, if_neg h2, if_neg h3, if_neg h4, if_neg h5, if_neg h6] at h; exact absurd rfl h
theorem parse_some {s : List UInt8} {k d : Nat} (h : parseT s = some (k, d)) : 1 ≤ k ∧ k ≤ 6 ∧ d < 18446744073709551616 ∧ s.length ≤ 23 ∧ s ≠ [] := by
 unfold parseT at h
 split at h
 ·cases h
 ·rename_i hk
  obtain ⟨x, hx, e⟩ := Option.map_eq_some_iff.1 h
  simp only [Prod.mk.injEq] at e
  obtain ⟨rfl, rfl⟩ := e
  have hl := kind_le (upto [45] s)
  refine ⟨by omega, hl, draw_lt hx, ?_, fun e => by subst e; exact hk rfl⟩
  unfold drawOf at hx
  split at hx
  ·rename_i h16
   have h3 := upto_from_len [45] s
   have h4 : (upto [45] s).length ≤ 6 := by
    rw [kind_is hk]
    have := (by decide : ∀ k : Fin 7, (pre k.val).length ≤ 6) ⟨kindOf (upto [45] s), by omega⟩
    exact this
   rw [List.length_drop] at h16
   omega
  ·cases hx
end Tk
namespace Tr
open Tk
set_option linter.unusedVariables false
set_option linter.unusedSimpArgs false
structure Rec where
 kind : Int
 name : List UInt8
 parent : List UInt8
 user : List UInt8
 service : List UInt8
 url : List UInt8
 made : Int
 used : Int
 uses : Int
 fresh : Bool
 deriving DecidableEq
def r0 : Rec := ⟨0, [], [], [], [], [], 0, 0, 0, false⟩
def comes (kind of : Int) : Bool := (kind == 1 && of == 0) || (kind == 6 && of == 0) || (kind == 2 && of == 1) || (kind == 3 && of == 4) || (kind == 4 && of == 2) || (kind == 4 && of == 3) || (kind == 5 && of == 4)
def parentOk (kind : Int) (name : List UInt8) : Bool := if name = [] then comes kind 0 else match parseT name with
 | some (of, _) => comes kind (of : Nat)
 | none => false
def isT (s : List UInt8) (kind : Int) : Bool := match parseT s with
 | some (k, _) => ((k : Nat) : Int) == kind
 | none => false
def rightR (r : Rec) : Bool :=
 (decide ((r.user.length : Int) ≤ 32) && decide ((r.service.length : Int) ≤ 100) && decide ((r.url.length : Int) ≤ 100)) && (decide (0 ≤ r.made) && decide (r.made ≤ r.used) && decide (r.used ≤ 1099511627776) && decide (0 ≤ r.uses) && decide (r.uses ≤ 255)) && isT r.name r.kind && parentOk r.kind r.parent
def atN (name : List UInt8) : List Rec → Nat → Int
 | [], _ => -1
 | r :: l, i => if r.name = name then (i : Int) else atN name l (i + 1)
def at0 (l : List Rec) (name : List UInt8) : Int := atN name l 0
theorem atN_case (name : List UInt8) : ∀ (l : List Rec) (i : Nat), (atN name l i = -1 ∧ ∀ r ∈ l, r.name ≠ name) ∨ ∃ (j : Nat) (r : Rec), atN name l i = ((i + j : Nat) : Int) ∧ l[j]? = some r ∧ r.name = name ∧ ∀ (q : Nat) (t : Rec), q < j → l[q]? = some t → t.name ≠ name
 | [], _ => .inl ⟨rfl, fun r h => by simp at h⟩
 | a :: l, i => by
  rw [atN]
  by_cases h : a.name = name
  ·rw [if_pos h]
   exact .inr ⟨0, a, rfl, rfl, h, fun q t hq => absurd hq (by omega)⟩
  ·rw [if_neg h]
   rcases atN_case name l (i + 1) with ⟨h1, h2⟩ | ⟨j, r, h1, h2, h3, h4⟩
   ·refine .inl ⟨h1, fun r hr => ?_⟩
    rcases List.mem_cons.1 hr with e | e
    ·subst e; exact h
    ·exact h2 r e
   ·refine .inr ⟨j + 1, r, by rw [h1]; congr 1; omega, h2, h3, fun q t hq ht => ?_⟩
    cases q with
    | zero => simp at ht; subst ht; exact h
    | succ q => exact h4 q t (by omega) (by simpa using ht)
theorem at_case (l : List Rec) (name : List UInt8) : (at0 l name = -1 ∧ ∀ r ∈ l, r.name ≠ name) ∨ ∃ (j : Nat) (r : Rec), at0 l name = (j : Int) ∧ l[j]? = some r ∧ r.name = name ∧ ∀ (q : Nat) (t : Rec), q < j → l[q]? = some t → t.name ≠ name := by
 rcases atN_case name l 0 with h | ⟨j, r, h1, h2⟩
 ·exact .inl h
 ·exact .inr ⟨j, r, by rw [at0, h1, Nat.zero_add], h2⟩
theorem at_lt (l : List Rec) (name : List UInt8) : at0 l name < l.length := by
 rcases at_case l name with ⟨h, _⟩ | ⟨j, r, h, hr, _⟩
 ·rw [h]; omega
 ·have := (List.getElem?_eq_some_iff.1 hr).1
  rw [h]; omega
theorem at_ge (l : List Rec) (name : List UInt8) : -1 ≤ at0 l name := by
 rcases at_case l name with ⟨h, _⟩ | ⟨j, r, h, _⟩ <;> rw [h] <;> omega
def get (l : List Rec) (name : List UInt8) : Option Rec := l.find? fun r => decide (r.name = name)
theorem get_at (l : List Rec) (name : List UInt8) : (at0 l name = -1 ∧ get l name = none) ∨ ∃ (j : Nat) (r : Rec), at0 l name = (j : Int) ∧ l[j]? = some r ∧ r.name = name ∧ get l name = some r := by
 rcases at_case l name with ⟨h1, h2⟩ | ⟨j, r, h1, h2, h3, h4⟩
 ·refine .inl ⟨h1, ?_⟩
  unfold get
  rw [List.find?_eq_none]
  intro r hr
  simpa using h2 r hr
 ·refine .inr ⟨j, r, h1, h2, h3, ?_⟩
  unfold get
  have : ∀ (l : List Rec) (j : Nat), l[j]? = some r → (∀ (q : Nat) (t : Rec), q < j → l[q]? = some t → t.name ≠ name) → l.find? (fun r => decide (r.name = name)) = some r := by
   intro l
   induction l with
   | nil => intro j h; simp at h
   | cons a l ih =>
    intro j h hno
    rw [List.find?_cons]
    cases j with
    | zero => simp at h; subst h; rw [decide_eq_true h3]
    | succ j =>
     rw [decide_eq_false (hno 0 a (by omega) rfl)]
     exact ih j (by simpa using h) (fun q t hq ht => hno (q + 1) t (by omega) (by simpa using ht))
  exact this l j h2 h4
def addE (room : Int) (l : List Rec) (r : Rec) : Nat := if rightR r = false then 1 else if 0 ≤ at0 l r.name then 7 else if r.parent ≠ [] ∧ at0 l r.parent < 0 then 6 else if room ≤ l.length then 5 else 0
def add (room : Int) (l : List Rec) (r : Rec) : List Rec := if addE room l r = 0 then l ++ [r] else l
def putE (l : List Rec) (r : Rec) : Nat := if rightR r = false then 1 else match get l r.name with
 | none => 6
 | some t => if t.parent ≠ r.parent then 8 else 0
def put (l : List Rec) (r : Rec) : List Rec := if putE l r = 0 then l.set (at0 l r.name).toNat r else l
structure Wf (l : List Rec) : Prop where
 right : ∀ r ∈ l, rightR r = true
 one : ∀ (i j : Nat) (r s : Rec), l[i]? = some r → l[j]? = some s → r.name = s.name → i = j
 up : ∀ (i : Nat) (r : Rec), l[i]? = some r → (r.parent = [] ∨ 0 ≤ at0 l r.parent) ∧ at0 l r.parent < i
theorem Wf.nil : Wf [] := ⟨fun r h => by simp at h, fun i j r s h => by simp at h, fun i r h => by simp at h⟩
theorem Wf.at_ {l : List Rec} (h : Wf l) {i : Nat} {r : Rec} (hr : l[i]? = some r) : at0 l r.name = (i : Int) := by
 rcases at_case l r.name with ⟨_, h2⟩ | ⟨j, t, h1, h2, h3, _⟩
 ·exact absurd rfl (h2 r (List.mem_of_getElem? hr))
 ·rw [h1, h.one j i t r h2 hr h3]
theorem Wf.get_ {l : List Rec} (h : Wf l) {i : Nat} {r : Rec} (hr : l[i]? = some r) : get l r.name = some r := by
 rcases get_at l r.name with ⟨h1, _⟩ | ⟨j, t, h1, h2, h3, h4⟩
 ·rw [h.at_ hr] at h1; omega
 ·rw [h4]
  have e : j = i := h.one j i t r h2 hr h3
  subst e
  rw [h2] at hr; exact hr
theorem right_name {r : Rec} (h : rightR r = true) : r.name ≠ [] := by
 intro e
 unfold rightR at h
 simp only [Bool.and_eq_true] at h
 have h1 := h.1.2
 unfold isT at h1
 rw [e] at h1
 cases hp : parseT [] with
 | none => rw [hp] at h1; cases h1
 | some x => exact (parse_some (k := x.1) (d := x.2) hp).2.2.2.2 rfl
theorem atN_app (name : List UInt8) : ∀ (l m : List Rec) (i : Nat), atN name (l ++ m) i = if atN name l i = -1 then atN name m (i + l.length) else atN name l i
 | [], m, i => by simp [atN]
 | a :: l, m, i => by
  rw [List.cons_append, atN, atN]
  split
  ·rw [if_neg (by omega)]
  ·rw [atN_app name l m (i + 1), List.length_cons, show i + 1 + l.length = i + (l.length + 1) by omega]
theorem at_snoc (l : List Rec) (r : Rec) (name : List UInt8) : at0 (l ++ [r]) name = if at0 l name = -1 then (if r.name = name then (l.length : Int) else -1) else at0 l name := by
 unfold at0
 rw [atN_app]
 simp [atN]
theorem get_snoc {l : List Rec} {r : Rec} {i : Nat} {t : Rec} (h : (l ++ [r])[i]? = some t) : l[i]? = some t ∨ (i = l.length ∧ t = r) := by
 rcases Nat.lt_or_ge i l.length with h1 | h1
 ·rw [List.getElem?_append_left h1] at h; exact .inl h
 ·rw [List.getElem?_append_right h1] at h
  have h2 := (List.getElem?_eq_some_iff.1 h).1
  simp at h2
  have h3 : i = l.length := by omega
  subst h3
  simp at h
  exact .inr ⟨rfl, h.symm⟩
theorem add_ok {room : Int} {l : List Rec} {r : Rec} (h : addE room l r = 0) : rightR r = true ∧ at0 l r.name = -1 ∧ (r.parent = [] ∨ 0 ≤ at0 l r.parent) ∧ (l.length : Int) < room := by
 unfold addE at h
 split at h
 ·cases h
 ·rename_i h1
  split at h
  ·cases h
  ·rename_i h2
   split at h
   ·cases h
   ·rename_i h3
    split at h
    ·cases h
    ·refine ⟨by simpa using h1, by have := at_ge l r.name; omega, ?_, by omega⟩
     by_cases e : r.parent = []
     ·exact .inl e
     ·refine .inr ?_
      have : ¬ at0 l r.parent < 0 := fun h4 => h3 ⟨e, h4⟩
      omega
theorem Wf.snoc {l : List Rec} (h : Wf l) {r : Rec} (hr : rightR r = true) (hm1 : at0 l r.name = -1) (hp : r.parent = [] ∨ 0 ≤ at0 l r.parent) : Wf (l ++ [r]) := by
 have hno : ∀ t ∈ l, t.name ≠ r.name := by
  rcases at_case l r.name with ⟨_, h4⟩ | ⟨j, t, h4, _⟩
  ·exact h4
  ·rw [h4] at hm1; omega
 have hnil : ∀ l : List Rec, (∀ r ∈ l, rightR r = true) → at0 l [] = -1 := fun l hl => by
  rcases at_case l [] with ⟨h4, _⟩ | ⟨j, t, _, ht, he, _⟩
  ·exact h4
  ·exact absurd he (right_name (hl t (List.mem_of_getElem? ht)))
 refine ⟨fun t ht => ?_, fun i j s t hi hj he => ?_, fun i t hi => ?_⟩
 ·rcases List.mem_append.1 ht with e | e
  ·exact h.right t e
  ·simp at e; subst e; exact hr
 ·rcases get_snoc hi with hi1 | ⟨hi1, hi2⟩
  ·rcases get_snoc hj with hj1 | ⟨hj1, hj2⟩
   ·exact h.one i j s t hi1 hj1 he
   ·rw [hj2] at he; exact absurd he (hno s (List.mem_of_getElem? hi1))
  ·rcases get_snoc hj with hj1 | ⟨hj1, hj2⟩
   ·rw [hi2] at he; exact absurd he.symm (hno t (List.mem_of_getElem? hj1))
   ·omega
 ·have key : ∀ (t : Rec), (t.parent = [] ∨ 0 ≤ at0 l t.parent) → at0 (l ++ [r]) t.parent = at0 l t.parent := fun t ht => by
   rw [at_snoc]
   rcases ht with e | e
   ·rw [e, hnil l h.right, if_pos rfl, if_neg (right_name hr)]
   ·rw [if_neg (by omega)]
  rcases get_snoc hi with hi1 | ⟨hi1, hi2⟩
  ·obtain ⟨h1, h2⟩ := h.up i t hi1
   rw [key t h1]; exact ⟨h1, h2⟩
  ·subst hi1; subst hi2
   rw [key t hp]; exact ⟨hp, at_lt l t.parent⟩
theorem Wf.add {l : List Rec} (h : Wf l) {room : Int} {r : Rec} : Wf (add room l r) := by
 unfold Tr.add
 split
 ·rename_i he
  obtain ⟨h1, h2, h3, _⟩ := add_ok he
  exact h.snoc h1 h2 h3
 ·exact h
theorem atN_set (name : List UInt8) {r : Rec} : ∀ (l : List Rec) (k i : Nat) (t : Rec), l[k]? = some t → t.name = r.name → atN name (l.set k r) i = atN name l i
 | [], k, i, t, h, _ => by simp at h
 | a :: l, 0, i, t, h, he => by
  simp at h; subst h
  rw [List.set_cons_zero, atN, atN, he]
 | a :: l, k + 1, i, t, h, he => by
  rw [List.set_cons_succ, atN, atN, atN_set name l k (i + 1) t (by simpa using h) he]
theorem put_ok {l : List Rec} {r : Rec} (h : putE l r = 0) : rightR r = true ∧ ∃ (j : Nat) (t : Rec), at0 l r.name = (j : Int) ∧ l[j]? = some t ∧ t.name = r.name ∧ t.parent = r.parent ∧ get l r.name = some t := by
 unfold putE at h
 split at h
 ·cases h
 ·rename_i h1
  refine ⟨by simpa using h1, ?_⟩
  rcases get_at l r.name with ⟨_, h2⟩ | ⟨j, t, h2, h3, h4, h5⟩
  ·rw [h2] at h; cases h
  ·rw [h5] at h
   simp only at h
   split at h
   ·cases h
   ·rename_i h6
    exact ⟨j, t, h2, h3, h4, by simpa using h6, h5⟩
theorem Wf.set {l : List Rec} (h : Wf l) {j : Nat} {t r : Rec} (ht : l[j]? = some t) (hn : t.name = r.name) (hp : t.parent = r.parent) (hr : rightR r = true) : Wf (l.set j r) := by
 have hj := (List.getElem?_eq_some_iff.1 ht).1
 have e : ∀ name, at0 (l.set j r) name = at0 l name := fun name => atN_set name l j 0 t ht hn
 have g : ∀ (i : Nat) (s : Rec), (l.set j r)[i]? = some s → ∃ u, l[i]? = some u ∧ u.name = s.name ∧ u.parent = s.parent := fun i s hs => by
  rw [List.getElem?_set] at hs
  split at hs
  ·rename_i hij
   subst hij
   cases hs
   exact ⟨t, ht, hn, hp⟩
  ·exact ⟨s, hs, rfl, rfl⟩
 refine ⟨fun s hs => ?_, fun i k s u hi hk he => ?_, fun i s hi => ?_⟩
 ·rcases List.mem_or_eq_of_mem_set hs with h1 | h1
  ·exact h.right s h1
  ·subst h1; exact hr
 ·obtain ⟨s', h1, h2, _⟩ := g i s hi
  obtain ⟨u', h3, h4, _⟩ := g k u hk
  exact h.one i k s' u' h1 h3 (by rw [h2, h4, he])
 ·obtain ⟨s', h1, _, h2⟩ := g i s hi
  rw [e, ← h2]
  exact h.up i s' h1
theorem Wf.put {l : List Rec} (h : Wf l) {r : Rec} : Wf (put l r) := by
 unfold Tr.put
 split
 ·rename_i he
  obtain ⟨h1, j, t, h2, h3, h4, h5, _⟩ := put_ok he
  rw [h2, Int.toNat_natCast]
  exact h.set h3 h4 h5 h1
 ·exact h
def pathF (l : List Rec) : Nat → Int → List Rec
 | 0, _ => []
 | f + 1, i => if i < 0 then [] else match l[i.toNat]? with
  | some r => r :: pathF l f (at0 l r.parent)
  | none => []
theorem pathF_neg (l : List Rec) (f : Nat) {i : Int} (h : i < 0) : pathF l f i = [] := by
 cases f with
 | zero => rfl
 | succ f => rw [pathF, if_pos h]
theorem pathF_fuel {l : List Rec} (h : Wf l) : ∀ (f g : Nat) (i : Int), i < f → i < g → pathF l f i = pathF l g i
 | 0, g, i, h1, _ => by rw [pathF_neg l g (by omega), pathF_neg l 0 (by omega)]
 | f + 1, 0, i, _, h2 => by rw [pathF_neg l (f + 1) (by omega), pathF_neg l 0 (by omega)]
 | f + 1, g + 1, i, h1, h2 => by
  rw [pathF, pathF]
  split
  ·rfl
  ·rename_i hi
   cases hr : l[i.toNat]? with
   | none => rfl
   | some r =>
    have hu := (h.up i.toNat r hr).2
    simp only
    rw [pathF_fuel h f g (at0 l r.parent) (by omega) (by omega)]
def pathI (l : List Rec) (i : Int) : List Rec := pathF l (i.toNat + 1) i
def path (l : List Rec) (name : List UInt8) : List Rec := pathI l (at0 l name)
theorem pathI_neg (l : List Rec) {i : Int} (h : i < 0) : pathI l i = [] := pathF_neg l _ h
theorem pathI_at {l : List Rec} (h : Wf l) {i : Nat} {r : Rec} (hr : l[i]? = some r) : pathI l (i : Int) = r :: pathI l (at0 l r.parent) := by
 unfold pathI
 rw [Int.toNat_natCast, pathF, if_neg (by omega), Int.toNat_natCast, hr]
 simp only
 have hu := (h.up i r hr).2
 rw [pathF_fuel h i ((at0 l r.parent).toNat + 1) _ (by omega) (by omega)]
def kidsR (l : List Rec) (name : List UInt8) : List Rec := l.filter fun r => decide (name ≠ []) && decide (r.parent = name)
def kids (l : List Rec) (name : List UInt8) : List (List UInt8) := (kidsR l name).map Rec.name
def belowF (l : List Rec) : Nat → List UInt8 → List (List UInt8)
 | 0, _ => []
 | f + 1, name => name :: (kids l name).flatMap (belowF l f)
def below (l : List Rec) (name : List UInt8) : List (List UInt8) := if 0 ≤ at0 l name then belowF l l.length name else []
def drop (l : List Rec) (name : List UInt8) : List Rec := l.filter fun r => !(below l name).contains r.name
def firstR {α : Type} (pr : α → Bool) : List α → Nat → Int
 | [], _ => -1
 | s :: r, i => if pr s then (i : Int) else firstR pr r (i + 1)
theorem firstR_skip {α : Type} (pr : α → Bool) : ∀ (n : Nat) (r : List α) (i : Nat), (∀ (j : Nat) s, j < n → r[j]? = some s → pr s = false) → firstR pr r i = firstR pr (r.drop n) (i + min n r.length)
 | 0, r, i, _ => by simp
 | n + 1, [], i, _ => by simp [firstR]
 | n + 1, s :: r, i, h => by
  rw [firstR, if_neg (by rw [h 0 s (by omega) rfl]; decide), firstR_skip pr n r (i + 1) (fun j t hj ht => h (j + 1) t (by omega) (by simpa using ht)), List.drop_succ_cons, List.length_cons]
  congr 1
  omega
theorem firstR_hit {α : Type} {pr : α → Bool} {l : List α} {i : Nat} {s : α} (h : ∀ (j : Nat) t, j < i → l[j]? = some t → pr t = false) (hs : l[i]? = some s) (hp : pr s = true) : firstR pr l 0 = (i : Int) := by
 have hi := (List.getElem?_eq_some_iff.1 hs).1
 rw [firstR_skip pr i l 0 h, Nat.zero_add, Nat.min_eq_left (by omega), List.drop_eq_getElem_cons hi, (List.getElem?_eq_some_iff.1 hs).2, firstR, if_pos hp]
theorem firstR_none {α : Type} {pr : α → Bool} {l : List α} (h : ∀ (j : Nat) t, l[j]? = some t → pr t = false) : firstR pr l 0 = -1 := by
 rw [firstR_skip pr l.length l 0 (fun j t _ ht => h j t ht), List.drop_length]
 rfl
theorem firstR_any {α : Type} (pr : α → Bool) : ∀ (l : List α) (i : Nat), decide (0 ≤ firstR pr l i) = l.any pr
 | [], i => rfl
 | s :: r, i => by
  rw [firstR, List.any_cons]
  split
  ·rename_i h
   rw [h, Bool.true_or, decide_eq_true_eq]; omega
  ·rename_i h
   rw [Bool.eq_false_iff.2 h, Bool.false_or, firstR_any pr r (i + 1)]
theorem first_at (name : List UInt8) : ∀ (l : List Rec) (i : Nat), firstR (fun r => decide (r.name = name)) l i = atN name l i
 | [], i => rfl
 | s :: r, i => by
  rw [firstR, atN, first_at name r (i + 1)]
  simp only [decide_eq_true_eq]
def getD (l : List Rec) (name : List UInt8) : Rec := (get l name).getD r0
end Tr
namespace Go.Proofs.YtadhiihnnkcagaaGreatDoor
open Gk Pc
set_option linter.unusedVariables false
set_option linter.unusedSimpArgs false
theorem info5_183 : Tryz.prog.info? 5 = some Tryz.t5 := by kernel_rfl
theorem info271_183 : Tryz.prog.info? 271 = some Tryz.t271 := by kernel_rfl
def DigAt (I : Im) : Prop := At I (ad 3 0) (bcs HIGH)
theorem DigAt.mono {I J : Im} (h : DigAt I) (hl : Le I J) : DigAt J := At.mono h hl
theorem plain_int (c : UInt8) : ((((((decide (97 ≤ (c.toNat : Int)) && decide ((c.toNat : Int) ≤ 122)) || (decide (65 ≤ (c.toNat : Int)) && decide ((c.toNat : Int) ≤ 90))) || (decide (48 ≤ (c.toNat : Int)) && decide ((c.toNat : Int) ≤ 57))) || ((c.toNat : Int) == 45)) || ((c.toNat : Int) == 46)) || ((c.toNat : Int) == 95) || ((c.toNat : Int) == 126)) = plain c :=
 eq_of_beq (all_bytes (p := fun c => ((((((decide (97 ≤ (c.toNat : Int)) && decide ((c.toNat : Int) ≤ 122)) || (decide (65 ≤ (c.toNat : Int)) && decide ((c.toNat : Int) ≤ 90))) || (decide (48 ≤ (c.toNat : Int)) && decide ((c.toNat : Int) ≤ 57))) || ((c.toNat : Int) == 45)) || ((c.toNat : Int) == 46)) || ((c.toNat : Int) == 95) || ((c.toNat : Int) == 126)) == plain c) (by decide +kernel) c)
theorem high_at {n : Nat} (h : n < 16) : (bcs HIGH)[n]? = some (U8 (hexd n).toNat) := by
 have : ∀ n : Fin 16, HIGH[n.val]? = some (hexd n.val) := by decide +kernel
 rw [List.getElem?_map, this ⟨n, h⟩]; rfl
theorem shr4 (c : UInt8) : ((c.toNat : Int) / 2 ^ (4 : Int).toNat) = ((c.toNat / 16 : Nat) : Int) := by
 show (c.toNat : Int) / 16 = _
 omega
theorem and15 (c : UInt8) : bits .and .u8 (c.toNat : Int) 15 = ((c.toNat % 16 : Nat) : Int) :=
 eq_of_beq (all_bytes (p := fun c => bits .and .u8 (c.toNat : Int) 15 == ((c.toNat % 16 : Nat) : Int)) (by decide +kernel) c)
theorem Plain_any (c : UInt8) (w : World) :
  Calls Tryz.prog 183 [U8 c.toNat].toArray w (Ret fun v w' => v = .bool (plain c) ∧ w = w') := by
 refine calls Tryz.func183 rfl Tryz.ntmps183 rfl (.seq (.region (.run 1 rfl trivial (.nil (.seq (.region (.run 3 rfl trivial (.gval rfl rfl (fun hg1 => (.move (.of rfl))) rfl (.gval rfl rfl (fun hg1 => (.leq (.gd hg1 rfl) (.of rfl))) rfl (.val (.pand (.of rfl) (.of rfl) (.of rfl)) rfl (.run 1 rfl trivial (.gval rfl rfl (fun hg1 => (.move (.of rfl))) rfl (.gval rfl rfl (fun hg1 => (.geq (.gd hg1 rfl) (.of rfl))) rfl (.gval rfl rfl (fun hg1 => (.move (.gd hg1 rfl))) rfl (.gval2 rfl rfl rfl (fun hg1 hg2 => (.move (.of rfl))) rfl (.gval2 rfl rfl rfl (fun hg1 hg2 => (.leq (.gd2 hg1 hg2 rfl) (.of rfl))) rfl (.gval rfl rfl (fun hg1 => (.pand (.gd hg1 rfl) (.gd hg1 rfl) (.of rfl))) rfl (.val (.por (.of rfl) (.of rfl) (.of rfl)) rfl (.run 1 rfl trivial (.gval rfl rfl (fun hg1 => (.move (.of rfl))) rfl (.gval rfl rfl (fun hg1 => (.geq (.gd hg1 rfl) (.of rfl))) rfl (.gval rfl rfl (fun hg1 => (.move (.gd hg1 rfl))) rfl (.gval2 rfl rfl rfl (fun hg1 hg2 => (.move (.of rfl))) rfl (.gval2 rfl rfl rfl (fun hg1 hg2 => (.leq (.gd2 hg1 hg2 rfl) (.of rfl))) rfl (.gval rfl rfl (fun hg1 => (.pand (.gd hg1 rfl) (.gd hg1 rfl) (.of rfl))) rfl (.val (.por (.of rfl) (.of rfl) (.of rfl)) rfl (.run 1 rfl trivial (.gval rfl rfl (fun hg1 => (.move (.of rfl))) rfl (.gval rfl rfl (fun hg1 => (.eql (.gd hg1 rfl) (.of rfl))) rfl (.val (.por (.of rfl) (.of rfl) (.of rfl)) rfl (.run 1 rfl trivial (.gval rfl rfl (fun hg1 => (.move (.of rfl))) rfl (.gval rfl rfl (fun hg1 => (.eql (.gd hg1 rfl) (.of rfl))) rfl (.val (.por (.of rfl) (.of rfl) (.of rfl)) rfl (.run 1 rfl trivial (.gval rfl rfl (fun hg1 => (.move (.of rfl))) rfl (.gval rfl rfl (fun hg1 => (.eql (.gd hg1 rfl) (.of rfl))) rfl (.val (.por (.of rfl) (.of rfl) (.of rfl)) rfl (.run 1 rfl trivial (.gval rfl rfl (fun hg1 => (.move (.of rfl))) rfl (.gval rfl rfl (fun hg1 => (.eql (.gd hg1 rfl) (.of rfl))) rfl (.val (.por (.of rfl) (.of rfl) (.of rfl)) rfl (.run 1 rfl trivial (.nil (.ret (ret1 Tryz.results183 rfl ?_))))))))))))))))))))))))))))))))))))))))))))))
 exact ⟨_, rfl, congrArg Value.bool (plain_int c), rfl⟩
theorem percent_any (c : UInt8) (B w : World) (I : Im) (hd : DigAt I) (As : List Assn) (hS : Sat B w I As) :
  Calls Tryz.prog 212 [U8 c.toNat].toArray w (Ret fun v w' => v = S (pctB c) ∧ Sat B w' I As) := by
 refine calls Tryz.func212 rfl Tryz.ntmps212 rfl (.seq (.region (.run 1 rfl trivial (.nil (.seq ?_)))))
 have h16 : c.toNat / 16 < 16 := by have := c.toNat_lt; omega
 have h15 : c.toNat % 16 < 16 := by omega
 refine .tail 8 (by kernel_rfl) (by kernel_rfl) ?_
 replace hS := hS.drew; generalize w.drew = w at hS ⊢
 refine .val (.move (.of rfl)) rfl (.val (.shr (.of rfl) (.of rfl) (by decide) (by decide)) rfl ?_)
 rw [shr4 c]
 refine .val (.arrAddrI (i := ((c.toNat / 16 : Nat) : Int)) (.of rfl) (.of rfl) (by omega) (by omega) Tryz.underlying279 Tryz.sizeOf5) rfl ?_
 refine WT.val (.ldI (.of rfl) hS (hd.add _) Tryz.isAgg5 (by rw [List.getElem?_drop, Nat.add_zero, Nat.mul_one, Int.toNat_natCast]; exact high_at (n := c.toNat / 16) h16)) rfl ?_
 refine .val (.move (.of rfl)) rfl (.val (.ibits (.inl rfl) (.of rfl) (.of rfl)) rfl ?_)
 rw [and15 c]
 refine .val (.arrAddrI (i := ((c.toNat % 16 : Nat) : Int)) (.of rfl) (.of rfl) (by omega) (by omega) Tryz.underlying279 Tryz.sizeOf5) rfl ?_
 refine WT.val (.ldI (.of rfl) hS (hd.add _) Tryz.isAgg5 (by rw [List.getElem?_drop, Nat.add_zero, Nat.mul_one, Int.toNat_natCast]; exact high_at (n := c.toNat % 16) h15)) rfl ?_
 refine .nil ?_
 show WL _ _ _ _ _ _ _
 refine .buildSlice (cs := [_, _, _]) hS (parts_cons (.of rfl) (parts_cons (.of rfl) (parts_cons (.of rfl) parts_nil))) Tryz.underlying214 Tryz.sizeOf5 Tryz.zeroValue5 rfl rfl rfl rfl ?_
 clear hS; intro b11 w hS
 refine WL.val (.bytesStr (l := pctB c) (b := b11) (o := 0) (cap := 3) (.of rfl) hS (k := 0) rfl Tryz.underlying214 Tryz.underlying5 Tryz.underlying9 (fun j hj => by
  have hj3 : j < 3 := hj
  match j, hj3 with
  | 0, _ => rfl
  | 1, _ => rfl
  | 2, _ => rfl)) rfl ?_
 refine .run 1 rfl trivial (.nil (.ret (ret1 Tryz.results212 rfl ?_)))
 exact ⟨_, rfl, rfl, hS.drop (k := 0) rfl⟩
def upB (c : UInt8) : UInt8 := if 97 ≤ c && c ≤ 102 then c - 32 else c
theorem up_low {c : UInt8} (h : 97 ≤ c.toNat ∧ c.toNat ≤ 102) : (c.toNat : Int) - 32 = ((upB c).toNat : Int) := by
 have := all_bytes (p := fun c => !(decide (97 ≤ c.toNat ∧ c.toNat ≤ 102)) || (c.toNat : Int) - 32 == ((upB c).toNat : Int)) (by decide +kernel) c
 simpa [h] using this
theorem up_not {c : UInt8} (h : ¬ (97 ≤ c.toNat ∧ c.toNat ≤ 102)) : upB c = c := by
 have := all_bytes (p := fun c => decide (97 ≤ c.toNat ∧ c.toNat ≤ 102) || upB c == c) (by decide +kernel) c
 simpa [h] using this
theorem up_hit {c : UInt8} {i : Nat} (h : i < 16) (he : upB c = HIGH.getD i 0) : hexv c = (i : Int) := by
 have := all_bytes (p := fun c => (List.range 16).all fun i => !(upB c == HIGH.getD i 0) || hexv c == (i : Int)) (by decide +kernel) c
 have := List.all_eq_true.1 this i (List.mem_range.2 h)
 simpa [he] using this
theorem up_miss {c : UInt8} (h : ∀ i, i < 16 → HIGH.getD i 0 ≠ upB c) : hexv c = -1 := by
 have := all_bytes (p := fun c => (List.range 16).any (fun i => HIGH.getD i 0 == upB c) || hexv c == -1) (by decide +kernel) c
 simp only [Bool.or_eq_true, beq_iff_eq] at this
 rcases this with h1 | h1
 ·obtain ⟨i, hi, h2⟩ := List.any_eq_true.1 h1
  simp only [beq_iff_eq] at h2
  exact absurd h2 (h i (List.mem_range.1 hi))
 ·exact h1
theorem digit_any (c : UInt8) (B w : World) (I : Im) (hd : DigAt I) (As : List Assn) (hS : Sat B w I As) :
  Calls Tryz.prog 235 [U8 c.toNat].toArray w (Ret fun v w' => v = I64 (hexv c) ∧ Sat B w' I As) := by
 refine calls Tryz.func235 rfl Tryz.ntmps235 rfl (.seq (.region (.run 1 rfl trivial (.nil ?_))))
 refine WC.cutS (σ := UInt8) (fun u => [(0, U8 u.toNat)]) (fun u w => u = upB c ∧ Sat B w I As) ?_ ?_
 ·
  refine .seq (.region (.run 3 rfl trivial (.gval rfl rfl (fun hg1 => (.move (.of rfl))) rfl (.gval rfl rfl (fun hg1 => (.leq (.gd hg1 rfl) (.of rfl))) rfl (.val (.pand (.of rfl) (.of rfl) (.of rfl)) rfl (.nil ?_))))))
  refine WC.cond rfl (fun hb10 => ?_) (fun hb10 => ?_)
  ·
   have hc10 := hb10; try simp only [Gk.cs0] at hc10
   refine .region (.run 1 rfl trivial ?_)
   refine WL.val (.subx (.of rfl) (.of rfl) (by rw [IntKind.wrap_u8]; simp only [Bool.and_eq_true, decide_eq_true_eq] at hb10; omega)) rfl ?_
   refine .run 1 rfl trivial (.nil ?_)
   refine ⟨upB c, ⟨?_, trivial⟩, rfl, hS⟩
   have h97 : 97 ≤ c.toNat ∧ c.toNat ≤ 102 := by simp only [Bool.and_eq_true, decide_eq_true_eq] at hb10; omega
   show some (Value.int .u8 ((c.toNat : Int) - 32)) = some (U8 ((upB c).toNat : Int))
   rw [up_low h97]
  have hc10 := hb10; try simp only [Gk.cs0] at hc10
  refine .skip ?_
  refine ⟨upB c, ⟨?_, trivial⟩, rfl, hS⟩
  have h97 : ¬ (97 ≤ c.toNat ∧ c.toNat ≤ 102) := by simp only [Bool.and_eq_false_iff, decide_eq_false_iff_not] at hb10; omega
  show some (U8 (c.toNat : Int)) = some (U8 ((upB c).toNat : Int))
  rw [up_not h97]
 rintro u w ⟨hu, hS⟩
 change WC _ _ _ _ [(0, U8 u.toNat)] w
 refine .seq (.seq (.region (.val (.ldsI (us := bcs HIGH) (.of rfl) hS hd Tryz.isAgg279 Tryz.sizeOf279 rfl (fun _ _ h => h)) rfl (.run 1 rfl trivial (.nil (.block (.loop (σ := Nat) (fun i => [(0, U8 u.toNat), (13, .agg (bcs HIGH).toArray), (14, I64 (i : Nat))]) (fun i w => i ≤ 16 ∧ (∀ j, j < i → HIGH.getD j 0 ≠ u) ∧ Sat B w I As) (fun i => 16 - i) 0 ⟨rfl, rfl, rfl, trivial⟩ ⟨by decide, fun _ h => absurd h (by omega), hS⟩ ?_)))))))
 rintro i w ⟨hi, hno, hS⟩
 change WC _ _ _ _ [(0, U8 u.toNat), (13, .agg (bcs HIGH).toArray), (14, I64 (i : Nat))] w
 refine .seq (.region (.run 1 rfl trivial (.nil (.seq ?_))))
 refine WC.cond rfl (fun hb15 => ?_) (fun hb15 => ?_)
 ·
  have hc15 := hb15; try simp only [Gk.cs0] at hc15
  refine .skip (.seq (.block (.seq (.region (.run 1 rfl trivial ?_)))))
  refine WL.val (.indexArr (vs := bcs HIGH) (v := U8 (HIGH.getD i 0).toNat) (.of rfl) (.of rfl) (by omega) (by omega) Tryz.underlying279 Tryz.sizeOf5 Tryz.isAgg5 (by rw [List.getElem?_map, Int.toNat_natCast, List.getD_eq_getElem?_getD, List.getElem?_eq_getElem (show i < HIGH.length by have : HIGH.length = 16 := rfl; omega)]; rfl)) rfl ?_
  refine .run 2 rfl trivial (.nil (.seq (.region (.run 3 rfl trivial (.nil ?_)))))
  refine WC.cond rfl (fun hb20 => ?_) (fun hb20 => ?_)
  ·
   have hc20 := hb20; try simp only [Gk.cs0] at hc20
   refine .seq (.region (.run 2 rfl trivial (.nil (.ret (ret1 Tryz.results235 rfl ?_)))))
   refine ⟨_, rfl, ?_, hS⟩
   simp only [beq_iff_eq] at hb20
   rw [hu] at hb20
   rw [up_hit (c := c) (i := i) (by omega) (UInt8.toNat_inj.1 (by omega))]
  have hc20 := hb20; try simp only [Gk.cs0] at hc20
  refine .skip (.region (.run 2 rfl ⟨⟨by omega, by omega⟩, trivial⟩ (.nil ?_)))
  refine ⟨i + 1, ⟨rfl, rfl, rfl, trivial⟩, ⟨by omega, fun j hj => ?_, hS⟩, by omega⟩
  rcases Nat.lt_or_ge j i with h1 | h1
  ·exact hno j h1
  ·have e : j = i := by omega
   subst e
   simp only [beq_eq_false_iff_ne] at hb20
   exact fun e => hb20 (by rw [e])
 have hc15 := hb15; try simp only [Gk.cs0] at hc15
 refine .exit (.seq (.region (.run 1 rfl trivial (.nil (.ret (ret1 Tryz.results235 rfl ?_))))))
 refine ⟨_, rfl, ?_, hS⟩
 rw [hu] at hno
 rw [up_miss (c := c) (fun j hj => hno j (by omega))]
def tval (a b : Int) : Int := IntKind.u8.wrap (bits .or .i64 (IntKind.i64.wrap (a * 2 ^ (4 : Int).toNat)) (bits .and .i64 b 15))
theorem tval_byte (a b : UInt8) (ha : 0 ≤ hexv a) (hb : 0 ≤ hexv b) : tval (hexv a) (hexv b) = ((Pc.byteOf a b).toNat : Int) := by
 rw [byteOf_toNat a b ha hb]
 have h1 := hexv_range a
 have h2 := hexv_range b
 have h : ∀ x y : Fin 16, tval (x.val : Int) (y.val : Int) = 16 * (x.val : Int) + (y.val : Int) := by decide +kernel
 have := h ⟨(hexv a).toNat, by omega⟩ ⟨(hexv b).toNat, by omega⟩
 simp only [Int.toNat_of_nonneg ha, Int.toNat_of_nonneg hb] at this
 exact this
theorem told_any (s : List UInt8) (i : Int) (h0 : 0 ≤ i) (h1 : i ≤ 9223372036854775800) (B w : World) (I : Im) (hd : DigAt I) (As : List Assn) (hS : Sat B w I As) :
  Calls Tryz.prog 226 [S s, I64 i].toArray w (Ret fun v w' => v = (if (s.length : Int) ≤ i + 2 then .tuple #[.int .u8 0, .bool false] else .tuple #[.int .u8 (tval (hexv (at_ s (i + 1))) (hexv (at_ s (i + 2)))), .bool (decide (0 ≤ hexv (at_ s (i + 1))) && decide (0 ≤ hexv (at_ s (i + 2))))]) ∧ Sat B w' I As) := by
 refine calls Tryz.func226 rfl Tryz.ntmps226 rfl (.seq (.region (.run 2 rfl trivial (.nil (.seq (.seq (.region (.run 5 rfl ⟨⟨by omega, by omega⟩, Tryz.underlying9, trivial⟩ (.nil ?_)))))))))
 refine WC.cond rfl (fun hb12 => ?_) (fun hb12 => ?_)
 ·
  have hc12 := hb12; try simp only [Gk.cs0] at hc12
  refine .seq (.region (.run 2 rfl trivial (.nil (.ret (ret2 Tryz.results226 rfl rfl ?_)))))
  exact ⟨_, rfl, by rw [if_pos hc12], hS⟩
 have hc12 := hb12; try simp only [Gk.cs0] at hc12
 refine .skip (.seq (.quiet (by kernel_rfl) (by kernel_rfl) hS (.val (fun w hS => (.move (.of rfl))) rfl (.val (fun w hS => (.move (.of rfl))) rfl (.val (fun w hS => (.add (.of rfl) (.of rfl) ⟨by omega, by omega⟩)) rfl (.val (fun w hS => (.index (.of rfl) (.of rfl) (by omega) (by omega) Tryz.underlying9)) rfl (.call Tryz.func235 rfl (evs_cons (.of rfl) evs_nil) rfl (fun w hS => digit_any (at_ s (i + 1)) B w I hd _ hS) (.val (fun w hS => (.move (.of rfl))) rfl (.val (fun w hS => (.move (.of rfl))) rfl (.val (fun w hS => (.add (.of rfl) (.of rfl) ⟨by omega, by omega⟩)) rfl (.val (fun w hS => (.index (.of rfl) (.of rfl) (by omega) (by omega) Tryz.underlying9)) rfl (.call Tryz.func235 rfl (evs_cons (.of rfl) evs_nil) rfl (fun w hS => digit_any (at_ s (i + 2)) B w I hd _ hS) (.val (fun w hS => (.assign (.of rfl))) rfl (.val (fun w hS => (.assign (.of rfl))) rfl (.nil ?_)))))))))))))))
 clear hS; intro w hS
 refine .seq (.region (.run 1 rfl trivial (.val (.shl (.of rfl) (.of rfl) (by decide) (by decide)) rfl (.run 1 rfl trivial (.val (.ibits (.inl rfl) (.of rfl) (.of rfl)) rfl (.val (.ibits (.inr (.inl rfl)) (.of rfl) (.of rfl)) rfl (.val (.cvw (.of rfl) Tryz.underlying3 Tryz.underlying5) rfl (.run 3 rfl trivial (.gval rfl rfl (fun hg1 => (.move (.of rfl))) rfl (.gval rfl rfl (fun hg1 => (.geq (.gd hg1 rfl) (.of rfl))) rfl (.val (.pand (.of rfl) (.of rfl) (.of rfl)) rfl (.run 2 rfl trivial (.nil (.ret (ret2 Tryz.results226 rfl rfl ?_)))))))))))))))
 exact ⟨_, rfl, by rw [if_neg (by omega)]; rfl, hS⟩
theorem NormalC_any (c : UInt8) (b : Bool) (B w : World) (I : Im) (hd : DigAt I) (As : List Assn) (hS : Sat B w I As) :
  Calls Tryz.prog 211 [U8 c.toNat, .bool b].toArray w (Ret fun v w' => v = S (if (b && !plain c) = true then pctB c else [c]) ∧ Sat B w' I As) := by
 refine calls Tryz.func211 rfl Tryz.ntmps211 rfl (.seq (.region (.run 1 rfl trivial (.nil (.seq (.seq (.region (.run 2 rfl trivial (.gval rfl rfl (fun hg1 => (.move (.of rfl))) rfl (.gcall (T := fun w => Sat B w I As) rfl rfl rfl Tryz.func183 rfl (fun hg1 => (evs_cons (.gd hg1 rfl) evs_nil)) rfl (fun hg1 => quiet_of (Plain_any c w) hS) hS ?_))))))))))
 clear hS; rintro w hS
 refine .gval rfl rfl (fun hg1 => (.not (.gd hg1 rfl))) rfl (.val (.pand (.of rfl) (.of rfl) (.of rfl)) rfl (.nil ?_))
 refine WC.cond rfl (fun hb10 => ?_) (fun hb10 => ?_)
 ·
  have hc10 := hb10; try simp only [Gk.cs0] at hc10
  refine .seq (.region (.run 1 rfl trivial (.call Tryz.func212 rfl (evs_cons (.of rfl) evs_nil) rfl (percent_any c B w I hd _ hS) ?_)))
  clear hS
  rintro _ w ⟨rfl, hS⟩
  refine .run 1 rfl trivial (.nil (.ret (ret1 Tryz.results211 rfl ?_)))
  exact ⟨_, rfl, by rw [if_pos hb10], hS⟩
 have hc10 := hb10; try simp only [Gk.cs0] at hc10
 refine .skip (.seq (.region (.run 1 rfl trivial (.buildSlice (cs := [_]) hS (parts_cons (.of rfl) parts_nil) Tryz.underlying214 Tryz.sizeOf5 Tryz.zeroValue5 rfl rfl rfl rfl ?_))))
 clear hS; intro b14 w hS
 refine .val (.str1 (c := c) (.of rfl) hS (k := 0) rfl rfl Tryz.underlying214 Tryz.underlying5 Tryz.underlying9) rfl (.run 1 rfl trivial (.nil (.ret (ret1 Tryz.results211 rfl ?_))))
 exact ⟨_, rfl, by rw [if_neg (by rw [hb10]; simp)], hS.drop (k := 0) rfl⟩
theorem copyCheck_any (bb : Nat) (p v : Value) (hp : p = .pointer none ∨ p = ptr bb 0) (B w : World) (I : Im) (F : List Assn) (hS : Sat B w I (blk bb [p, v] 271 :: F)) :
  Calls Tryz.prog 234 [ptr bb 0].toArray w (Ret fun u w' => u = .tuple #[] ∧ Sat B w' I (blk bb [ptr bb 0, v] 271 :: F)) := by
 rcases hp with rfl | rfl
 ·
  refine calls Tryz.func234 rfl Tryz.ntmps234 rfl (.seq (.region (.run 2 rfl trivial (.val (.fieldAddr 0 (.of rfl) Tryz.underlying271 rfl rfl Tryz.sizeOf269 rfl) rfl (.val (.ld (.of rfl) hS (k := 0) rfl Tryz.isAgg269 rfl) rfl (.val (.eqp (.of rfl) (.of rfl) Tryz.underlying269) rfl (.nil (.condT (rfl) (.region (.run 2 rfl trivial (.val (.toUnsafe (.of rfl) hS (k := 0) rfl Tryz.underlying269 Tryz.underlying293 info271_183 (by decide) (by simp)) rfl (.val (.extern Tryz.func244 (by kernel_rfl) (by kernel_rfl) (by kernel_rfl) (e := Extern.AbiNoEscape.same) (by kernel_rfl) (evs_cons (.of rfl) evs_nil) (Go.Lib.run_noEscape w _)) rfl (.val (.fromUnsafe (.of rfl) hS (k := 0) rfl Tryz.underlying293 Tryz.underlying269 info271_183 (by kernel_rfl)) rfl (.run 1 rfl trivial (.val (.fieldAddr 0 (.of rfl) Tryz.underlying271 rfl rfl Tryz.sizeOf269 rfl) rfl (.st1 hS (k := 0) rfl (.of rfl) (.of rfl) rfl Tryz.sizeOf269 (by simp) ?_))))))))))))))))
  clear hS; intro w hS; try dsimp only [List.set] at hS
  refine .nil (end0 Tryz.results234 ?_)
  exact ⟨_, rfl, rfl, hS⟩
 ·
  refine calls Tryz.func234 rfl Tryz.ntmps234 rfl (.seq (.region (.run 2 rfl trivial (.val (.fieldAddr 0 (.of rfl) Tryz.underlying271 rfl rfl Tryz.sizeOf269 rfl) rfl (.val (.ld (.of rfl) hS (k := 0) rfl Tryz.isAgg269 rfl) rfl (.val (.eqp (.of rfl) (.of rfl) Tryz.underlying269) rfl (.nil (.condF (rfl) (.seq (.region (.run 2 rfl trivial (.val (.fieldAddr 0 (.of rfl) Tryz.underlying271 rfl rfl Tryz.sizeOf269 rfl) rfl (.val (.ld (.of rfl) hS (k := 0) rfl Tryz.isAgg269 rfl) rfl (.run 1 rfl trivial (.val (.nepSame (.of rfl) (.of rfl) Tryz.underlying269 info271_183 trivial) rfl (.nil (.condF (rfl) (.skip (end0 Tryz.results234 ?_)))))))))))))))))))
  exact ⟨_, rfl, rfl, hS⟩
theorem WriteString_any (bb : Nat) (p v : Value) (l s : List UInt8) (hp : p = .pointer none ∨ p = ptr bb 0) (B w : World) (I : Im) (F : List Assn) (hS : Sat B w I (blk bb [p, v] 271 :: Vec 5 1 v l.length (bcs l) :: F)) (hl : l.length + s.length ≤ 140737488000000) :
  Calls Tryz.prog 225 [ptr bb 0, S s].toArray w (Ret fun u w' => u = .tuple #[I64 s.length, .nilIface] ∧ ∃ v', Sat B w' I (blk bb [ptr bb 0, v'] 271 :: Vec 5 1 v' (l ++ s).length (bcs (l ++ s)) :: F)) := by
 refine calls Tryz.func225 rfl Tryz.ntmps225 rfl (.seq (.region (.run 2 rfl trivial (.nil (.seq (.region (.run 1 rfl trivial (.call Tryz.func234 rfl (evs_cons (.of rfl) evs_nil) rfl (copyCheck_any bb p v hp B w I _ hS) ?_))))))))
 clear hS
 rintro _ w ⟨rfl, hS⟩
 refine .nil (.seq ?_)
 obtain ⟨va, vc, rfl, hvc, _⟩ := hS.vecSlice (k := 1) rfl
 refine .region (.run 3 rfl trivial (.val (.fieldAddr 1 (.of rfl) Tryz.underlying271 rfl rfl Tryz.sizeOf214 rfl) rfl (.val (.ld (.of rfl) hS (k := 0) rfl Tryz.isAgg214 rfl) rfl (.run 1 rfl trivial (.appendStr hS (.of rfl) (.of rfl) (k := 1) rfl Tryz.underlying214 Tryz.underlying9 info5_183 rfl rfl rfl (by omega) rfl ?_)))))
 clear hS; intro v14 w hS; dsimp only [List.set] at hS
 obtain ⟨a14, c14, rfl, hcap14, _⟩ := hS.vecSlice (k := 1) (v := v14) rfl
 refine .run 1 rfl trivial (.val (.fieldAddr 1 (.of rfl) Tryz.underlying271 rfl rfl Tryz.sizeOf214 rfl) rfl (.st1 hS (k := 0) rfl (.of rfl) (.of rfl) rfl Tryz.sizeOf214 (by simp) ?_))
 clear hS; intro w hS; try dsimp only [List.set] at hS
 refine .nil (.seq (.region (.run 4 rfl ⟨Tryz.underlying9, trivial⟩ (.nil (.ret (ret2 Tryz.results225 rfl rfl ?_))))))
 exact ⟨_, rfl, rfl, _, by simpa using hS⟩
set_option maxRecDepth 8000 in
theorem String_any (bb : Nat) (p v : Value) (l : List UInt8) (hv : l = [] → v = .slice none 0 0) (B w : World) (I : Im) (F : List Assn) (hS : Sat B w I (blk bb [p, v] 271 :: Vec 5 1 v l.length (bcs l) :: F)) :
  Calls Tryz.prog 227 [ptr bb 0].toArray w (Ret fun u w' => u = S l ∧ Sat B w' I F) := by
 by_cases h0 : l = []
 ·obtain rfl := hv h0
  subst h0
  refine calls Tryz.func227 rfl Tryz.ntmps227 rfl (.seq (.region (.run 1 rfl trivial (.nil (.seq (.tail 10 (by kernel_rfl) (by kernel_rfl) ?_))))))
  replace hS := hS.drew; generalize w.drew = w at hS ⊢
  refine .val (.move (.of rfl)) rfl (.val (.nilCheck (.of rfl)) rfl (.val (.fieldAddr 1 (.of rfl) Tryz.underlying271 rfl rfl Tryz.sizeOf214 rfl) rfl (.val (.ld (.of rfl) hS (k := 0) rfl Tryz.isAgg214 rfl) rfl (.val (.sliceDataNil (.of rfl)) rfl (.val (.move (.of rfl)) rfl (.val (.nilCheck (.of rfl)) rfl (.val (.fieldAddr 1 (.of rfl) Tryz.underlying271 rfl rfl Tryz.sizeOf214 rfl) rfl (.val (.ld (.of rfl) hS (k := 0) rfl Tryz.isAgg214 rfl) rfl (.val (.lenSlice (.of rfl) Tryz.underlying214) rfl (.nil ?_))))))))))
  show WL _ _ _ _ _ _ _
  refine .val (.unsafeStringNone (.of rfl) (.of rfl)) rfl (.run 1 rfl trivial (.nil (.ret (ret1 Tryz.results227 rfl ?_))))
  exact ⟨_, rfl, rfl, (hS.drop (k := 0) rfl).drop (k := 0) rfl⟩
 ·have h1 : 0 < l.length := List.length_pos_iff.2 h0
  obtain ⟨vb, vc, r, rfl, hv1, hv2, hv3, hv4, hT⟩ := hS.vecOpen (k := 1) rfl h1
  clear hS; have hS := hT; clear hT; try dsimp only [List.set] at hS
  have h63 : l.length ≤ 9223372036854775807 := by unfold maxLen at hv2; omega
  refine calls Tryz.func227 rfl Tryz.ntmps227 rfl (.seq (.region (.run 1 rfl trivial (.nil (.seq (.tail 10 (by kernel_rfl) (by kernel_rfl) ?_))))))
  replace hS := hS.drew; generalize w.drew = w at hS ⊢
  refine .val (.move (.of rfl)) rfl (.val (.nilCheck (.of rfl)) rfl (.val (.fieldAddr 1 (.of rfl) Tryz.underlying271 rfl rfl Tryz.sizeOf214 rfl) rfl (.val (.ld (.of rfl) hS (k := 0) rfl Tryz.isAgg214 rfl) rfl (.val (.sliceData (.of rfl) (by omega)) rfl (.val (.move (.of rfl)) rfl (.val (.nilCheck (.of rfl)) rfl (.val (.fieldAddr 1 (.of rfl) Tryz.underlying271 rfl rfl Tryz.sizeOf214 rfl) rfl (.val (.ld (.of rfl) hS (k := 0) rfl Tryz.isAgg214 rfl) rfl (.val (.lenSlice (.of rfl) Tryz.underlying214) rfl (.nil ?_))))))))))
  show WL _ _ _ _ _ _ _
  refine .unsafeString hS (k := 1) rfl (.of rfl) (.of rfl) h0 Tryz.underlying285 (by kernel_rfl) (by omega) rfl ?_
  clear hS; intro w hS; try dsimp only [List.eraseIdx] at hS
  refine .run 1 rfl trivial (.nil (.ret (ret1 Tryz.results227 rfl ?_)))
  exact ⟨_, rfl, rfl, hS.drop (k := 0) rfl⟩
end Go.Proofs.YtadhiihnnkcagaaGreatDoor
namespace Go.Proofs.YtadhiihnnkcagaaGreatDoor
open Gk Pc
set_option linter.unusedVariables false
set_option linter.unusedSimpArgs false
theorem NormalC_f (c : UInt8) (B w : World) (I : Im) (hd : DigAt I) (As : List Assn) (hS : Sat B w I As) : Calls Tryz.prog 211 [U8 c.toNat, .bool false].toArray w (Ret fun v w' => v = S [c] ∧ Sat B w' I As) :=
 (NormalC_any c false B w I hd As hS).mono fun e w' he => by
  obtain ⟨v, rfl, rfl, h⟩ := he
  exact ⟨_, rfl, by simp, h⟩
theorem NormalC_t (c : UInt8) (B w : World) (I : Im) (hd : DigAt I) (As : List Assn) (hS : Sat B w I As) : Calls Tryz.prog 211 [U8 c.toNat, .bool true].toArray w (Ret fun v w' => v = S (one c) ∧ Sat B w' I As) :=
 (NormalC_any c true B w I hd As hS).mono fun e w' he => by
  obtain ⟨v, rfl, rfl, h⟩ := he
  refine ⟨_, rfl, ?_, h⟩
  unfold one
  cases plain c <;> rfl
theorem told_e (s : List UInt8) (i : Nat) (h1 : i ≤ 9223372036854775800) (B w : World) (I : Im) (hd : DigAt I) (As : List Assn) (hS : Sat B w I As) : Calls Tryz.prog 226 [S s, I64 (i : Nat)].toArray w (Ret fun v w' => ∃ tv ok, v = .tuple #[.int .u8 tv, .bool ok] ∧ (match Pc.told (s.drop (i + 1)) with | none => ok = false | some b => ok = true ∧ tv = (b.toNat : Int)) ∧ Sat B w' I As) :=
 (told_any s (i : Int) (by omega) (by omega) B w I hd As hS).mono fun e w' he => by
  obtain ⟨v, rfl, rfl, h⟩ := he
  by_cases hl : s.length ≤ i + 2
  ·have : Pc.told (s.drop (i + 1)) = none := by
    have hl : (s.drop (i + 1)).length ≤ 1 := by rw [List.length_drop]; omega
    match s.drop (i + 1), hl with
    | [], _ => rfl
    | [_], _ => rfl
   rw [if_pos (by omega), this]
   exact ⟨_, rfl, 0, false, rfl, rfl, h⟩
  ·have e1 : s.drop (i + 1) = at_ s ((i : Int) + 1) :: at_ s ((i : Int) + 2) :: s.drop (i + 3) := by
    rw [drop_at s (show i + 1 < s.length by omega), drop_at s (show i + 1 + 1 < s.length by omega)]
    rfl
   rw [if_neg (by omega), e1]
   refine ⟨_, rfl, _, _, rfl, ?_, h⟩
   simp only [Pc.told]
   by_cases hn : hexv (at_ s ((i : Int) + 1)) < 0 ∨ hexv (at_ s ((i : Int) + 2)) < 0
   ·rw [if_pos hn]
    simp only [Bool.and_eq_false_iff, decide_eq_false_iff_not]
    omega
   ·rw [if_neg hn]
    refine ⟨?_, tval_byte _ _ (by omega) (by omega)⟩
    simp only [Bool.and_eq_true, decide_eq_true_eq]
    omega
set_option maxHeartbeats 400000 in
set_option maxRecDepth 4000 in
theorem each_any (s : List UInt8) (hl : s.length ≤ 1000000) (B w : World) (I : Im) (hd : DigAt I) (As : List Assn) (hS : Sat B w I As) :
  Calls Tryz.prog 210 [S s, .func (.func 211) #[] #[]].toArray w (Ret fun v w' => v = (match norm s with | none => .tuple #[S [], I64 11] | some t => .tuple #[S t, I64 0]) ∧ Sat B w' I As) := by
 refine calls Tryz.func210 rfl Tryz.ntmps210 rfl (.seq (.region (.run 2 rfl trivial (.nil (.seq (.region (.allocA (cs := [_, _]) hS Tryz.zeroValue271 rfl ?_)))))))
 clear hS; intro b6 w hS
 refine .nil (.seq (.seq (.region (.run 1 rfl trivial (.nil (.block ?_))))))
 replace hS := (hS.vecNil 5 1).pick 1 rfl; try dsimp only [List.eraseIdx] at hS
 refine .loop (σ := List UInt8 × Value × Value × Nat) (fun ⟨out, p, v, i⟩ => [(0, S s), (1, .func (.func 211) #[] #[]), (6, ptr b6 0), (7, I64 (i : Nat))]) (fun ⟨out, p, v, i⟩ w => i ≤ s.length ∧ out.length + (s.length - i) * 3 ≤ s.length * 3 ∧ norm s = (norm (s.drop i)).map (out ++ ·) ∧ (p = .pointer none ∨ p = ptr b6 0) ∧ (out = [] → v = .slice none 0 0) ∧ Sat B w I (blk b6 [p, v] 271 :: Vec 5 1 v (out).length (bcs (out)) :: As)) (fun ⟨out, p, v, i⟩ => s.length - i) ([], .pointer none, .slice none 0 0, 0) ⟨rfl, rfl, rfl, rfl, trivial⟩ ⟨Nat.zero_le _, by simp, by simp, .inl rfl, fun _ => rfl, hS⟩ ?_
 rintro ⟨out, p, v, i⟩ w ⟨hi, hol, hno, hp, hpv, hS⟩
 change WC _ _ _ _ [(0, S s), (1, .func (.func 211) #[] #[]), (6, ptr b6 0), (7, I64 (i : Nat))] w
 refine .seq (.seq (.region (.run 4 rfl ⟨Tryz.underlying9, trivial⟩ (.nil ?_))))
 refine WC.cond rfl (fun hb13 => ?_) (fun hb13 => ?_)
 ·
  have hc13 := hb13; try simp only [Gk.cs0] at hc13
  refine .skip (.seq (.block (.seq (.seq (.region (.run 4 rfl ⟨⟨⟨by omega, by omega⟩, Tryz.underlying9⟩, trivial⟩ (.nil ?_)))))))
  refine WC.cond rfl (fun hb19 => ?_) (fun hb19 => ?_)
  ·
   have hc19 := hb19; try simp only [Gk.cs0] at hc19
   refine .seq (.region (.run 4 rfl ⟨⟨⟨by omega, by omega⟩, Tryz.underlying9⟩, trivial⟩ (.vcall (cap := []) Tryz.func211 rfl (.of rfl) (evs_cons (.of rfl) (evs_cons (.of rfl) evs_nil)) rfl (NormalC_f (at_ s (i : Int)) B w I hd _ hS) ?_)))
   clear hS
   rintro _ w ⟨rfl, hS⟩
   refine WL.call Tryz.func225 rfl (evs_cons (.of rfl) (evs_cons (.of rfl) evs_nil)) rfl (WriteString_any b6 p v out ([at_ s (i : Int)]) hp B w I _ hS (by simp only [List.length_cons, List.length_nil]; omega)) ?_
   clear hS
   rintro _ w ⟨rfl, v2, hS⟩
   refine .nil (.exit (.region (.run 3 rfl ⟨⟨by omega, by omega⟩, trivial⟩ (.nil ?_))))
   have e37 : at_ s (i : Int) ≠ 37 := fun e => by rw [e] at hb19; simp at hb19
   refine ⟨(out ++ [at_ s (i : Int)], ptr b6 0, v2, i + 1), ⟨rfl, rfl, rfl, rfl, trivial⟩, ⟨by (try dsimp only); omega, by (try dsimp only); rw [List.length_append]; simp only [List.length_cons, List.length_nil]; omega, ?_, .inr rfl, fun h => absurd h (by simp), hS⟩, by (try dsimp only); omega⟩
   rw [hno, drop_at s (by omega), norm_cons, if_neg e37]
   cases norm (s.drop (i + 1)) <;> simp
  have hc19 := hb19; try simp only [Gk.cs0] at hc19
  refine .skip (.seq (.region (.run 2 rfl trivial (.call Tryz.func226 rfl (evs_cons (.of rfl) (evs_cons (.of rfl) evs_nil)) rfl (told_e s i (by omega) B w I hd _ hS) ?_))))
  clear hS
  rintro _ w ⟨tv, ok, rfl, htv, hS⟩
  refine .run 5 rfl trivial (.nil (.seq (.seq (.region (.run 2 rfl trivial (.nil ?_))))))
  refine WC.cond rfl (fun hb33 => ?_) (fun hb33 => ?_)
  ·
   have hc33 := hb33; try simp only [Gk.cs0] at hc33
   refine .seq (.region (.run 2 rfl trivial (.nil (.ret (ret2 Tryz.results210 rfl rfl ?_)))))
   refine ⟨_, rfl, ?_, (hS.drop (k := 0) rfl).drop (k := 0) rfl⟩
   have e37 : at_ s (i : Int) = 37 := UInt8.toNat_inj.1 (by simp only [bne_eq_false_iff_eq] at hb19; show (at_ s (i : Int)).toNat = 37; omega)
   have ht : Pc.told (s.drop (i + 1)) = none := by
    cases ht : Pc.told (s.drop (i + 1)) with
    | none => rfl
    | some v => rw [ht] at htv; rw [htv.1] at hb33; simp at hb33
   have : norm s = none := by rw [hno, drop_at s (by omega), norm_cons, if_pos e37, ht]; rfl
   rw [this]
  have hc33 := hb33; try simp only [Gk.cs0] at hc33
  refine .skip (.seq ?_)
  have e37 : at_ s (i : Int) = 37 := UInt8.toNat_inj.1 (by simp only [bne_eq_false_iff_eq] at hb19; show (at_ s (i : Int)).toNat = 37; omega)
  obtain ⟨vb, hv⟩ : ∃ v, Pc.told (s.drop (i + 1)) = some v := by
   cases ht : Pc.told (s.drop (i + 1)) with
   | some v => exact ⟨v, rfl⟩
   | none => rw [ht] at htv; simp only at htv; rw [htv] at hb33; simp at hb33
  rw [hv] at htv
  obtain ⟨_, rfl⟩ := htv
  have hvl := told_len hv
  rw [List.length_drop] at hvl
  have hone3 : (one vb).length ≤ 3 := by unfold one; split <;> simp [pctB]
  have hone0 : out ++ one vb ≠ [] := fun e => by
   have := (List.append_eq_nil_iff.1 e).2
   unfold one at this; split at this <;> simp [pctB] at this
  refine .region (.run 2 rfl trivial (.vcall (cap := []) Tryz.func211 rfl (.of rfl) (evs_cons (.of rfl) (evs_cons (.of rfl) evs_nil)) rfl (NormalC_t vb B w I hd _ hS) ?_))
  clear hS
  rintro _ w ⟨rfl, hS⟩
  refine .call Tryz.func225 rfl (evs_cons (.of rfl) (evs_cons (.of rfl) evs_nil)) rfl (WriteString_any b6 p v out (one vb) hp B w I _ hS (by omega)) ?_
  clear hS
  rintro _ w ⟨rfl, v2, hS⟩
  refine .nil (.region (.run 3 rfl ⟨⟨by omega, by omega⟩, trivial⟩ (.nil (.region (.run 3 rfl ⟨⟨by omega, by omega⟩, trivial⟩ (.nil ?_))))))
  refine ⟨(out ++ one vb, ptr b6 0, v2, i + 3), ⟨rfl, rfl, rfl, rfl, trivial⟩, ⟨by (try dsimp only); omega, by (try dsimp only); rw [List.length_append]; omega, ?_, .inr rfl, fun h => absurd h hone0, hS⟩, by (try dsimp only); omega⟩
  rw [hno, drop_at s (by omega), norm_cons, if_pos e37, hv]
  simp only [List.drop_drop]
  cases norm (s.drop (i + 3)) <;> simp [List.append_assoc, Nat.add_assoc]
 have hc13 := hb13; try simp only [Gk.cs0] at hc13
 refine .exit (.seq (.region (.call Tryz.func227 rfl (evs_cons (.of rfl) evs_nil) rfl (String_any b6 p v out hpv B w I _ hS) ?_)))
 clear hS
 rintro _ w ⟨rfl, hS⟩
 refine .run 2 rfl trivial (.nil (.ret (ret2 Tryz.results210 rfl rfl ?_)))
 refine ⟨_, rfl, ?_, hS⟩
 have : norm s = some out := by rw [hno, List.drop_of_length_le (by omega), norm_nil]; simp
 rw [this]
theorem each_e (s : List UInt8) (hl : s.length ≤ 1000000) (B w : World) (I : Im) (hd : DigAt I) (As : List Assn) (hS : Sat B w I As) : Calls Tryz.prog 210 [S s, .func (.func 211) #[] #[]].toArray w (Ret fun v w' => ∃ n1 n2, v = .tuple #[n1, n2] ∧ .tuple #[n1, n2] = (match norm s with | none => Value.tuple #[S [], I64 11] | some t => .tuple #[S t, I64 0]) ∧ Sat B w' I As) :=
 (each_any s hl B w I hd As hS).mono fun e w' he => by
  obtain ⟨v, rfl, rfl, h⟩ := he
  cases norm s with
  | none => exact ⟨_, rfl, _, _, rfl, rfl, h⟩
  | some t => exact ⟨_, rfl, _, _, rfl, rfl, h⟩
theorem pNormal_any (s : List UInt8) (hl : s.length ≤ 1000000) (B w : World) (I : Im) (hd : DigAt I) (As : List Assn) (hS : Sat B w I As) :
  Calls Tryz.prog 187 [S s].toArray w (Ret fun v w' => v = (match norm s with | none => .tuple #[S [], I64 11] | some t => .tuple #[S t, I64 0]) ∧ Sat B w' I As) := by
 refine calls Tryz.func187 rfl Tryz.ntmps187 rfl (.seq (.region (.run 2 rfl trivial (.nil (.seq (.region (.run 1 rfl trivial (.call Tryz.func210 rfl (evs_cons (.of rfl) (evs_cons (.of rfl) evs_nil)) rfl (each_e s hl B w I hd _ hS) ?_))))))))
 clear hS
 rintro _ w ⟨n1, n2, rfl, hn, hS⟩
 refine .run 4 rfl trivial (.nil (.ret (ret2 Tryz.results187 rfl rfl ?_)))
 exact ⟨_, rfl, hn, hS⟩
end Go.Proofs.YtadhiihnnkcagaaGreatDoor
namespace Go.Proofs
open Go.Shelf
open Go.RowKit in
open Go.RowKit in
open Go.RowKit in
def Tryz.lays119_ren : Go.Shelf.Ren := ⟨fun | 119 => 224 | n => n, fun | 21 => 21 | 4 => 4 | n => n, fun | n => n⟩
theorem Tryz.lays119 : Go.Proofs.Lays.n119 Tryz.prog Tryz.lays119_ren := {
 mixed := by kernel_rfl
 f119 := Tryz.func224.trans (congrArg some (by kernel_rfl))
 t4 := Tryz.underlying4
 a4 := Tryz.isAgg4
 z4 := Tryz.sizeOf4
 v4 := Tryz.zeroValue4
 t21 := Tryz.underlying21
 a21 := Tryz.isAgg21
 z21 := Tryz.sizeOf21
 v21 := Tryz.zeroValue21 }
theorem Tryz.utf8_ValidRune (r : Int) (w : World) :
  Calls Tryz.prog 224 #[.int .i32 r] w fun e w' => e = .returned (.bool (Lib.validRune r)) ∧ w' = w := Any.utf8_ValidRune Tryz.lays119 r w
def Tryz.lays137_ren : Go.Shelf.Ren := ⟨fun | 137 => 181 | 217 => 205 | 266 => 223 | n => n, fun | 9 => 9 | 5 => 5 | 3 => 3 | n => n, fun | n => n⟩
theorem Tryz.lays137 : Go.Proofs.Lays.n137 Tryz.prog Tryz.lays137_ren := {
 mixed := by kernel_rfl
 f137 := Tryz.func181.trans (congrArg some (by kernel_rfl))
 f217 := Tryz.func205.trans (congrArg some (by kernel_rfl))
 f266 := Tryz.func223.trans (congrArg some (by kernel_rfl))
 t3 := Tryz.underlying3
 a3 := Tryz.isAgg3
 z3 := Tryz.sizeOf3
 v3 := Tryz.zeroValue3
 t5 := Tryz.underlying5
 a5 := Tryz.isAgg5
 z5 := Tryz.sizeOf5
 v5 := Tryz.zeroValue5
 t9 := Tryz.underlying9
 a9 := Tryz.isAgg9
 z9 := Tryz.sizeOf9
 v9 := Tryz.zeroValue9 }
open Go.RowKit in
theorem Tryz.strings_IndexByte (s : ByteArray) (c : Int) (w : World) :
  Calls Tryz.prog 181 #[.string s, .int .u8 c] w fun e w' => e = .returned (.int .i64 (Lib.indexByte s.data.toList c.toNat.toUInt8)) ∧ w' = w := Any.strings_IndexByte Tryz.lays137 s c w
open Go.RowKit in
open Go.Lib in
open Go.Lib in
open Go.Lib in
open Go.Lib in
open Go.RowKit Go.Sort Go.Lib in
open Go.RowKit Go.Sort Go.Lib in
open Go.RowKit Go.Sort Go.Lib in
open Go.RowKit Go.Sort Go.Lib in
open Go.RowKit Go.Sort Go.Lib in
def Tryz.laysM171_ren : Go.Shelf.Ren := ⟨fun | 171 => 189 | 243 => 214 | 246 => 231 | 283 => 239 | 284 => 240 | 285 => 241 | 286 => 242 | 129 => 247 | 317 => 246 | 318 => 248 | 319 => 249 | 320 => 250 | 337 => 251 | 338 => 252 | n => n, fun | 3 => 3 | 9 => 9 | 2 => 2 | 4 => 4 | 171 => 288 | 0 => 0 | 53 => 118 | 37 => 214 | 5 => 5 | 173 => 291 | 212 => 296 | 51 => 282 | 20 => 20 | 213 => 297 | 46 => 238 | 232 => 304 | 233 => 305 | n => n, fun | 17 => 4 | 18 => 7 | 19 => 8 | n => n⟩
theorem Tryz.laysM171 : Go.Proofs.LaysM.n171 Tryz.prog Tryz.laysM171_ren := {
 mixed := by kernel_rfl
 f129 := Tryz.func247.trans (congrArg some (by kernel_rfl))
 f171 := Tryz.func189.trans (congrArg some (by kernel_rfl))
 f243 := Tryz.func214.trans (congrArg some (by kernel_rfl))
 f246 := Tryz.func231.trans (congrArg some (by kernel_rfl))
 f283 := Tryz.func239.trans (congrArg some (by kernel_rfl))
 f284 := Tryz.func240.trans (congrArg some (by kernel_rfl))
 f285 := Tryz.func241.trans (congrArg some (by kernel_rfl))
 f286 := Tryz.func242.trans (congrArg some (by kernel_rfl))
 f317 := Tryz.func246.trans (congrArg some (by kernel_rfl))
 f318 := Tryz.func248.trans (congrArg some (by kernel_rfl))
 f319 := Tryz.func249.trans (congrArg some (by kernel_rfl))
 f320 := Tryz.func250.trans (congrArg some (by kernel_rfl))
 f337 := Tryz.func251.trans (congrArg some (by kernel_rfl))
 f338 := Tryz.func252.trans (congrArg some (by kernel_rfl))
 t0 := Tryz.underlying0
 a0 := Tryz.isAgg0
 z0 := Tryz.sizeOf0
 v0 := Tryz.zeroValue0
 t2 := Tryz.underlying2
 a2 := Tryz.isAgg2
 z2 := Tryz.sizeOf2
 v2 := Tryz.zeroValue2
 t3 := Tryz.underlying3
 a3 := Tryz.isAgg3
 z3 := Tryz.sizeOf3
 v3 := Tryz.zeroValue3
 t4 := Tryz.underlying4
 a4 := Tryz.isAgg4
 z4 := Tryz.sizeOf4
 v4 := Tryz.zeroValue4
 t5 := Tryz.underlying5
 a5 := Tryz.isAgg5
 z5 := Tryz.sizeOf5
 v5 := Tryz.zeroValue5
 t9 := Tryz.underlying9
 a9 := Tryz.isAgg9
 z9 := Tryz.sizeOf9
 v9 := Tryz.zeroValue9
 t20 := Tryz.underlying20
 a20 := Tryz.isAgg20
 z20 := Tryz.sizeOf20
 v20 := Tryz.zeroValue20
 t37 := Tryz.underlying214
 a37 := Tryz.isAgg214
 z37 := Tryz.sizeOf214
 v37 := Tryz.zeroValue214
 t46 := Tryz.underlying238
 a46 := Tryz.isAgg238
 z46 := Tryz.sizeOf238
 v46 := Tryz.zeroValue238
 t51 := Tryz.underlying282
 a51 := Tryz.isAgg282
 z51 := Tryz.sizeOf282
 v51 := Tryz.zeroValue282
 t53 := Tryz.underlying118
 a53 := Tryz.isAgg118
 z53 := Tryz.sizeOf118
 v53 := Tryz.zeroValue118
 t171 := Tryz.underlying288
 a171 := Tryz.isAgg288
 z171 := Tryz.sizeOf288
 v171 := Tryz.zeroValue288
 t173 := Tryz.underlying291
 a173 := Tryz.isAgg291
 z173 := Tryz.sizeOf291
 v173 := Tryz.zeroValue291
 t212 := Tryz.underlying296
 a212 := Tryz.isAgg296
 z212 := Tryz.sizeOf296
 v212 := Tryz.zeroValue296
 t213 := Tryz.underlying297
 a213 := Tryz.isAgg297
 z213 := Tryz.sizeOf297
 t232 := Tryz.underlying304
 a232 := Tryz.isAgg304
 z232 := Tryz.sizeOf304
 v232 := Tryz.zeroValue304
 t233 := Tryz.underlying305
 a233 := Tryz.isAgg305
 z233 := Tryz.sizeOf305
 v233 := Tryz.zeroValue305
 g17 := by kernel_rfl
 g18 := by kernel_rfl
 g19 := by kernel_rfl
 i0 := by kernel_rfl
 i2 := by kernel_rfl
 i3 := by kernel_rfl
 i4 := by kernel_rfl
 i5 := by kernel_rfl
 i9 := by kernel_rfl
 i20 := by kernel_rfl
 i37 := by kernel_rfl
 i46 := by kernel_rfl
 i51 := by kernel_rfl
 i53 := by kernel_rfl
 i171 := by kernel_rfl
 i173 := by kernel_rfl
 i212 := by kernel_rfl
 i232 := by kernel_rfl
 i233 := by kernel_rfl
 m17 := by kernel_rfl
 m18 := by kernel_rfl
 m19 := by kernel_rfl }
open Go.RowKit Go.Sort Go.Lib in
theorem Tryz.strconv_Itoa (n : Int) (h0 : -9223372036854775808 ≤ n) (h1 : n ≤ 9223372036854775807) (w : World) (htab : Lib.TabIs Tryz.prog w "internal/strconv.uint64pow10" .u64 Lib.pow10Tab) :
  Calls Tryz.prog 189 #[.int .i64 n] w fun e w' => e = .returned (.string ⟨(Lib.itoa n).toArray⟩) ∧ ∃ k os, w' = grow (w.drewN k) os := Any.strconv_Itoa Tryz.laysM171 n h0 h1 w htab
open Go.RowKit Go.Sort Go.Lib in
open Go.RowKit Go.Lib in
open Go.RowKit Go.Lib in
open Go.RowKit Go.Lib in
open Go.RowKit Go.Lib in
open Go.RowKit Go.Lib in
open Go.RowKit Go.Lib in
open Go.RowKit Go.Lib in
open Go.RowKit Go.Lib in
open Go.RowKit Go.Lib in
def Tryz.lays145_ren : Go.Shelf.Ren := ⟨fun | 145 => 146 | 220 => 180 | 219 => 204 | 217 => 205 | 225 => 220 | 224 => 221 | 267 => 222 | 266 => 223 | 314 => 233 | n => n, fun | 9 => 9 | 4 => 4 | 59 => 204 | 3 => 3 | 5 => 5 | 46 => 238 | 146 => 283 | 51 => 282 | n => n, fun | 1 => 2 | n => n⟩
theorem Tryz.lays145 : Go.Proofs.Lays.n145 Tryz.prog Tryz.lays145_ren := {
 mixed := by kernel_rfl
 f145 := Tryz.func146.trans (congrArg some (by kernel_rfl))
 f217 := Tryz.func205.trans (congrArg some (by kernel_rfl))
 f219 := Tryz.func204.trans (congrArg some (by kernel_rfl))
 f220 := Tryz.func180.trans (congrArg some (by kernel_rfl))
 f224 := Tryz.func221.trans (congrArg some (by kernel_rfl))
 f225 := Tryz.func220.trans (congrArg some (by kernel_rfl))
 f266 := Tryz.func223.trans (congrArg some (by kernel_rfl))
 f267 := Tryz.func222.trans (congrArg some (by kernel_rfl))
 f314 := Tryz.func233.trans (congrArg some (by kernel_rfl))
 t3 := Tryz.underlying3
 a3 := Tryz.isAgg3
 z3 := Tryz.sizeOf3
 v3 := Tryz.zeroValue3
 t4 := Tryz.underlying4
 a4 := Tryz.isAgg4
 z4 := Tryz.sizeOf4
 v4 := Tryz.zeroValue4
 t5 := Tryz.underlying5
 a5 := Tryz.isAgg5
 z5 := Tryz.sizeOf5
 v5 := Tryz.zeroValue5
 t9 := Tryz.underlying9
 a9 := Tryz.isAgg9
 z9 := Tryz.sizeOf9
 v9 := Tryz.zeroValue9
 t46 := Tryz.underlying238
 a46 := Tryz.isAgg238
 z46 := Tryz.sizeOf238
 v46 := Tryz.zeroValue238
 t51 := Tryz.underlying282
 a51 := Tryz.isAgg282
 z51 := Tryz.sizeOf282
 v51 := Tryz.zeroValue282
 t59 := Tryz.underlying204
 a59 := Tryz.isAgg204
 z59 := Tryz.sizeOf204
 v59 := Tryz.zeroValue204
 t146 := Tryz.underlying283
 a146 := Tryz.isAgg283
 z146 := Tryz.sizeOf283
 v146 := Tryz.zeroValue283
 g1 := by kernel_rfl }
open Go.RowKit Go.Lib in
theorem Tryz.strings_Cut (s sep : ByteArray) (m : Int) (w : World) (hs : s.size < 4294967281) (hm : w.cell? ⟨2, 0, none⟩ = some (.int .i64 m)) :
  Calls Tryz.prog 146 #[.string s, .string sep] w fun e w' => e = .returned (.tuple #[.string ⟨(Lib.cut s.data.toList sep.data.toList).1.toArray⟩, .string ⟨(Lib.cut s.data.toList sep.data.toList).2.1.toArray⟩, .bool (Lib.cut s.data.toList sep.data.toList).2.2]) ∧ ∃ n, w' = w.drewN n := Any.strings_Cut Tryz.lays145 s sep m w hs hm
open Go.RowKit Go.Lib in
open Go.RowKit Go.Lib in
open Go.RowKit Go.Lib in
open Go.RowKit Go.Lib in
open Go.RowKit Go.Lib in
open Go.RowKit Go.Lib in
open Go.RowKit Go.Lib in
open Go.RowKit Go.Lib in
open Go.RowKit Go.Lib in
open Go.RowKit Go.Lib in
open Go.RowKit Go.Lib in
def Tryz.lays146_ren : Go.Shelf.Ren := ⟨fun | 146 => 188 | 221 => 213 | 268 => 228 | 138 => 229 | 143 => 230 | 195 => 236 | 197 => 237 | 218 => 238 | 219 => 204 | 260 => 245 | 217 => 205 | 225 => 220 | 224 => 221 | 267 => 222 | 266 => 223 | 314 => 233 | n => n, fun | 9 => 9 | 31 => 41 | 3 => 3 | 4 => 4 | 0 => 0 | 105 => 286 | 21 => 21 | 5 => 5 | 46 => 238 | 119 => 299 | 139 => 302 | 138 => 301 | 146 => 283 | 51 => 282 | n => n, fun | 1 => 2 | 3 => 5 | 4 => 6 | n => n⟩
theorem Tryz.lays146 : Go.Proofs.Lays.n146 Tryz.prog Tryz.lays146_ren := {
 mixed := by kernel_rfl
 f138 := Tryz.func229.trans (congrArg some (by kernel_rfl))
 f143 := Tryz.func230.trans (congrArg some (by kernel_rfl))
 f146 := Tryz.func188.trans (congrArg some (by kernel_rfl))
 f195 := Tryz.func236.trans (congrArg some (by kernel_rfl))
 f197 := Tryz.func237.trans (congrArg some (by kernel_rfl))
 f217 := Tryz.func205.trans (congrArg some (by kernel_rfl))
 f218 := Tryz.func238.trans (congrArg some (by kernel_rfl))
 f219 := Tryz.func204.trans (congrArg some (by kernel_rfl))
 f221 := Tryz.func213.trans (congrArg some (by kernel_rfl))
 f224 := Tryz.func221.trans (congrArg some (by kernel_rfl))
 f225 := Tryz.func220.trans (congrArg some (by kernel_rfl))
 f260 := Tryz.func245.trans (congrArg some (by kernel_rfl))
 f266 := Tryz.func223.trans (congrArg some (by kernel_rfl))
 f267 := Tryz.func222.trans (congrArg some (by kernel_rfl))
 f268 := Tryz.func228.trans (congrArg some (by kernel_rfl))
 f314 := Tryz.func233.trans (congrArg some (by kernel_rfl))
 t0 := Tryz.underlying0
 a0 := Tryz.isAgg0
 z0 := Tryz.sizeOf0
 v0 := Tryz.zeroValue0
 t3 := Tryz.underlying3
 a3 := Tryz.isAgg3
 z3 := Tryz.sizeOf3
 v3 := Tryz.zeroValue3
 t4 := Tryz.underlying4
 a4 := Tryz.isAgg4
 z4 := Tryz.sizeOf4
 v4 := Tryz.zeroValue4
 t5 := Tryz.underlying5
 a5 := Tryz.isAgg5
 z5 := Tryz.sizeOf5
 v5 := Tryz.zeroValue5
 t9 := Tryz.underlying9
 a9 := Tryz.isAgg9
 z9 := Tryz.sizeOf9
 v9 := Tryz.zeroValue9
 t21 := Tryz.underlying21
 a21 := Tryz.isAgg21
 z21 := Tryz.sizeOf21
 v21 := Tryz.zeroValue21
 t31 := Tryz.underlying41
 a31 := Tryz.isAgg41
 z31 := Tryz.sizeOf41
 v31 := Tryz.zeroValue41
 t46 := Tryz.underlying238
 a46 := Tryz.isAgg238
 z46 := Tryz.sizeOf238
 v46 := Tryz.zeroValue238
 t51 := Tryz.underlying282
 a51 := Tryz.isAgg282
 z51 := Tryz.sizeOf282
 v51 := Tryz.zeroValue282
 t105 := Tryz.underlying286
 a105 := Tryz.isAgg286
 z105 := Tryz.sizeOf286
 v105 := Tryz.zeroValue286
 t119 := Tryz.underlying299
 a119 := Tryz.isAgg299
 z119 := Tryz.sizeOf299
 t138 := Tryz.underlying301
 a138 := Tryz.isAgg301
 z138 := Tryz.sizeOf301
 v138 := Tryz.zeroValue301
 t139 := Tryz.underlying302
 a139 := Tryz.isAgg302
 z139 := Tryz.sizeOf302
 v139 := Tryz.zeroValue302
 t146 := Tryz.underlying283
 a146 := Tryz.isAgg283
 z146 := Tryz.sizeOf283
 v146 := Tryz.zeroValue283
 g1 := by kernel_rfl
 g3 := by kernel_rfl
 g4 := by kernel_rfl }
open Go.RowKit Go.Lib in
theorem Tryz.strings_Split (s sep : ByteArray) (m : Int) (w : World) (hs : s.size < 4294967281) (hm : w.cell? ⟨2, 0, none⟩ = some (.int .i64 m)) (h1 : 1 ≤ sep.size) :
  Calls Tryz.prog 188 #[.string s, .string sep] w fun e w' =>
   e = .returned (.slice (some ⟨w.heap.size, 0, none⟩) (Lib.countB s sep + 1) (Lib.countB s sep + 1)) ∧ w' = w.alloc (.cells ((Lib.splitB sep 0 (Lib.countB s sep) s).map Value.string).toArray 9) := Any.strings_Split Tryz.lays146 (by kernel_rfl) s sep m w hs hm h1
open Go.RowKit Go.Lib in
open Go.RowKit Go.Lib in
def Tryz.lays152_ren : Go.Shelf.Ren := ⟨fun | 152 => 206 | 137 => 181 | 119 => 224 | 224 => 221 | 225 => 220 | 217 => 205 | 266 => 223 | n => n, fun | 9 => 9 | 21 => 21 | 3 => 3 | 4 => 4 | 5 => 5 | 0 => 0 | 46 => 238 | n => n, fun | n => n⟩
theorem Tryz.lays152 : Go.Proofs.Lays.n152 Tryz.prog Tryz.lays152_ren := {
 mixed := by kernel_rfl
 f119 := Tryz.func224.trans (congrArg some (by kernel_rfl))
 f137 := Tryz.func181.trans (congrArg some (by kernel_rfl))
 f152 := Tryz.func206.trans (congrArg some (by kernel_rfl))
 f217 := Tryz.func205.trans (congrArg some (by kernel_rfl))
 f224 := Tryz.func221.trans (congrArg some (by kernel_rfl))
 f225 := Tryz.func220.trans (congrArg some (by kernel_rfl))
 f266 := Tryz.func223.trans (congrArg some (by kernel_rfl))
 t0 := Tryz.underlying0
 a0 := Tryz.isAgg0
 z0 := Tryz.sizeOf0
 v0 := Tryz.zeroValue0
 t3 := Tryz.underlying3
 a3 := Tryz.isAgg3
 z3 := Tryz.sizeOf3
 v3 := Tryz.zeroValue3
 t4 := Tryz.underlying4
 a4 := Tryz.isAgg4
 z4 := Tryz.sizeOf4
 v4 := Tryz.zeroValue4
 t5 := Tryz.underlying5
 a5 := Tryz.isAgg5
 z5 := Tryz.sizeOf5
 v5 := Tryz.zeroValue5
 t9 := Tryz.underlying9
 a9 := Tryz.isAgg9
 z9 := Tryz.sizeOf9
 v9 := Tryz.zeroValue9
 t21 := Tryz.underlying21
 a21 := Tryz.isAgg21
 z21 := Tryz.sizeOf21
 v21 := Tryz.zeroValue21
 t46 := Tryz.underlying238
 a46 := Tryz.isAgg238
 z46 := Tryz.sizeOf238
 v46 := Tryz.zeroValue238 }
open Go.RowKit Go.Lib in
theorem Tryz.strings_IndexRune_ascii (s : ByteArray) (r : Int) (w : World) (h0 : 0 ≤ r) (h1 : r < 128) :
  Calls Tryz.prog 206 #[.string s, .int .i32 r] w fun e w' => e = .returned (.int .i64 (Lib.indexByte s.data.toList r.toNat.toUInt8)) ∧ w' = w := Any.strings_IndexRune_ascii Tryz.lays152 s r w h0 h1
open Go.RowKit Go.Lib in
open Go.RowKit Go.Lib in
def Tryz.lays153_ren : Go.Shelf.Ren := ⟨fun | 153 => 182 | 152 => 206 | 226 => 207 | 227 => 208 | 228 => 209 | 137 => 181 | 119 => 224 | 224 => 221 | 225 => 220 | 217 => 205 | 266 => 223 | n => n, fun | 9 => 9 | 3 => 3 | 4 => 4 | 5 => 5 | 21 => 21 | 117 => 256 | 116 => 255 | 0 => 0 | 46 => 238 | 124 => 268 | n => n, fun | n => n⟩
theorem Tryz.lays153 : Go.Proofs.Lays.n153 Tryz.prog Tryz.lays153_ren := {
 mixed := by kernel_rfl
 f119 := Tryz.func224.trans (congrArg some (by kernel_rfl))
 f137 := Tryz.func181.trans (congrArg some (by kernel_rfl))
 f152 := Tryz.func206.trans (congrArg some (by kernel_rfl))
 f153 := Tryz.func182.trans (congrArg some (by kernel_rfl))
 f217 := Tryz.func205.trans (congrArg some (by kernel_rfl))
 f224 := Tryz.func221.trans (congrArg some (by kernel_rfl))
 f225 := Tryz.func220.trans (congrArg some (by kernel_rfl))
 f226 := Tryz.func207.trans (congrArg some (by kernel_rfl))
 f227 := Tryz.func208.trans (congrArg some (by kernel_rfl))
 f228 := Tryz.func209.trans (congrArg some (by kernel_rfl))
 f266 := Tryz.func223.trans (congrArg some (by kernel_rfl))
 t0 := Tryz.underlying0
 a0 := Tryz.isAgg0
 z0 := Tryz.sizeOf0
 v0 := Tryz.zeroValue0
 t3 := Tryz.underlying3
 a3 := Tryz.isAgg3
 z3 := Tryz.sizeOf3
 v3 := Tryz.zeroValue3
 t4 := Tryz.underlying4
 a4 := Tryz.isAgg4
 z4 := Tryz.sizeOf4
 v4 := Tryz.zeroValue4
 t5 := Tryz.underlying5
 a5 := Tryz.isAgg5
 z5 := Tryz.sizeOf5
 v5 := Tryz.zeroValue5
 t9 := Tryz.underlying9
 a9 := Tryz.isAgg9
 z9 := Tryz.sizeOf9
 v9 := Tryz.zeroValue9
 t21 := Tryz.underlying21
 a21 := Tryz.isAgg21
 z21 := Tryz.sizeOf21
 v21 := Tryz.zeroValue21
 t46 := Tryz.underlying238
 a46 := Tryz.isAgg238
 z46 := Tryz.sizeOf238
 v46 := Tryz.zeroValue238
 t116 := Tryz.underlying255
 a116 := Tryz.isAgg255
 z116 := Tryz.sizeOf255
 t117 := Tryz.underlying256
 a117 := Tryz.isAgg256
 z117 := Tryz.sizeOf256
 v117 := Tryz.zeroValue256
 t124 := Tryz.underlying268
 a124 := Tryz.isAgg268
 z124 := Tryz.sizeOf268
 v124 := Tryz.zeroValue268 }
open Go.RowKit Go.Lib in
open Go.RowKit Go.Lib in
open Go.RowKit Go.Lib in
open Go.RowKit Go.Lib in
open Go.RowKit Go.Lib in
open Go.RowKit Go.Lib in
theorem Tryz.strings_IndexAny_long (hv116 : ∀ w, (zeroValue 255).run Tryz.prog w = .ok (.agg (Array.replicate 256 (.bool false))) w) (s chars : ByteArray) (w : World) (h2 : 2 ≤ chars.size) (h8 : 8 < s.size) (hs : s.size < 4294967281) (hcs : chars.size < 4294967281) (hascii : ∀ (j : Nat) b, chars.data.toList[j]? = some b → b.toNat < 128) :
  Calls Tryz.prog 182 #[.string s, .string chars] w fun e w' => e = .returned (.int .i64 (Lib.indexAny s.data.toList chars.data.toList)) ∧ w' = ((w.alloc (.cells (Lib.setCells chars.data.toList) 255)).alloc (.cells (Lib.setCells chars.data.toList) 255)) := Any.strings_IndexAny_long Tryz.lays153 hv116 (by kernel_rfl) s chars w h2 h8 hs hcs hascii
open Go.RowKit Go.Lib in
open Go.RowKit Go.Lib in
open Go.RowKit Go.Lib in
open Go.RowKit Go.Lib in
def Tryz.laysNm216_ren : Go.Shelf.Ren := ⟨fun | 16 => 129 | n => n, fun | 24 => 41 | 9 => 9 | 4 => 4 | n => n, fun | n => n⟩
theorem Tryz.laysNm216 : Go.Proofs.Lays2.n16 Tryz.prog Tryz.laysNm216_ren := {
 mixed := by kernel_rfl
 f16 := Tryz.func129.trans (congrArg some (by kernel_rfl))
 t4 := Tryz.underlying4
 a4 := Tryz.isAgg4
 z4 := Tryz.sizeOf4
 v4 := Tryz.zeroValue4
 t9 := Tryz.underlying9
 a9 := Tryz.isAgg9
 z9 := Tryz.sizeOf9
 v9 := Tryz.zeroValue9
 t24 := Tryz.underlying41
 a24 := Tryz.isAgg41
 z24 := Tryz.sizeOf41
 v24 := Tryz.zeroValue41
 i9 := by kernel_rfl }
open Go.RowKit Go.Lib in
theorem Tryz.slices_Clone_string (b off n c : Nat) (zs : List ByteArray) (w : World) (hz : n ≤ zs.length) (hbig : n * 16 ≤ 140737488355328) (hc : ∀ j, j < zs.length → w.cell? ⟨b, off + j, none⟩ = some (.string (zs.getD j ByteArray.empty))) :
  Calls Tryz.prog 129 #[.slice (some ⟨b, off, none⟩) n c] w fun e w' => ∃ v', e = .returned v' ∧ w'.ownsRow w.heap.size 9 1 v' n ((zs.take n).map (Value.string)) ∧ v' ≠ .slice none 0 0 ∧ Below w.heap.size w w' := Any.slices_Clone_string Tryz.laysNm216 b off n c zs w hz hbig hc
open Go.RowKit Go.Lib in
theorem Tryz.slices_Clone_string_nil (n c : Nat) (w : World) :
  Calls Tryz.prog 129 #[.slice none n c] w fun e w' => e = .returned (.slice none 0 0) ∧ w' = w := Any.slices_Clone_string_nil Tryz.laysNm216 n c w
open Go.RowKit Go.Lib in
theorem Tryz.slices_Clone_string_zero (a : Addr) (c : Nat) (w : World) :
  Calls Tryz.prog 129 #[.slice (some a) 0 c] w fun e w' => ∃ v', e = .returned v' ∧ w'.ownsRow w.heap.size 9 1 v' 0 [] ∧ v' ≠ .slice none 0 0 ∧ Below w.heap.size w w' := Any.slices_Clone_string_zero Tryz.laysNm216 a c w
end Go.Proofs
namespace Go.Proofs.YtadhiihnnkcagaaGreatDoor
open Gk Pc Ul
set_option linter.unusedVariables false
set_option linter.unusedSimpArgs false
theorem IndexByte_any (s : List UInt8) (c : UInt8) (w : World) : Calls Tryz.prog 181 [S s, U8 c.toNat].toArray w (Ret fun v w' => v = I64 (Go.Lib.indexByte s c) ∧ w = w') :=
 (Tryz.strings_IndexByte ⟨s.toArray⟩ c.toNat w).mono fun e w' he => by
  obtain ⟨rfl, rfl⟩ := he
  refine ⟨_, rfl, ?_, rfl⟩
  congr 2
  simp
theorem own_any (s : List UInt8) (w : World) :
  Calls Tryz.prog 185 [S s].toArray w (Ret fun v w' => v = I64 (ownP s : Nat) ∧ w = w') := by
 refine calls Tryz.func185 rfl Tryz.ntmps185 rfl (.seq (.region (.run 1 rfl trivial (.nil (.seq (.seq (.region (.run 2 rfl trivial (.nil ?_)))))))))
 refine WC.cond rfl (fun hb4 => ?_) (fun hb4 => ?_)
 ·
  have hc4 := hb4; try simp only [Gk.cs0] at hc4
  refine .seq (.region (.run 1 rfl trivial (.nil (.ret (ret1 Tryz.results185 rfl ?_)))))
  exact ⟨_, rfl, by rw [ownP, if_pos (show s = https from hc4)]; rfl, rfl⟩
 have hc4 := hb4; try simp only [Gk.cs0] at hc4
 refine .skip (.seq (.region (.run 1 rfl trivial (.nil (.ret (ret1 Tryz.results185 rfl ?_))))))
 exact ⟨_, rfl, by rw [ownP, if_neg (show ¬ s = https from hc4)]; rfl, rfl⟩
theorem lower_any (s : List UInt8) (hl : s.length ≤ 1000000) (B w : World) (I : Im) (As : List Assn) (hS : Sat B w I As) :
  Calls Tryz.prog 148 [S s].toArray w (Ret fun v w' => v = S (low s) ∧ Sat B w' I As) := by
 refine calls Tryz.func148 rfl Tryz.ntmps148 rfl (.seq (.region (.run 1 rfl trivial (.nil (.seq (.region (.run 1 rfl trivial (.strBytes (s := s) hS (.of rfl) Tryz.underlying9 Tryz.underlying214 Tryz.underlying5 rfl ?_))))))))
 clear hS; intro m7 cap7 r7 w hS
 refine .run 1 rfl trivial (.nil (.seq (.seq (.region (.run 3 rfl ⟨⟨_, Tryz.underlying214⟩, trivial⟩ (.nil (.block ?_)))))))
 refine WC.loop (σ := Nat) (fun i => [(3, .slice (some (ad m7 0)) s.length cap7), (8, .slice (some (ad m7 0)) s.length cap7), (9, I64 (s.length : Nat)), (10, I64 (i : Nat))]) (fun i w => i ≤ s.length ∧ Sat B w I (blkM m7 (bcs (mid s i) ++ List.replicate r7 (Value.int .u8 0)) 5 :: As)) (fun i => s.length - i) 0 ⟨rfl, rfl, rfl, rfl, trivial⟩ ⟨Nat.zero_le _, by rw [mid_zero]; exact hS⟩ ?_
 rintro i w ⟨hi, hS⟩
 change WC _ _ _ _ [(3, .slice (some (ad m7 0)) s.length cap7), (8, .slice (some (ad m7 0)) s.length cap7), (9, I64 (s.length : Nat)), (10, I64 (i : Nat))] w
 refine .seq (.region (.run 1 rfl trivial (.nil (.seq ?_))))
 refine WC.cond rfl (fun hb11 => ?_) (fun hb11 => ?_)
 ·
  have hc11 := hb11; try simp only [Gk.cs0] at hc11
  refine .skip (.seq (.block (.seq ?_)))
  have hl1 : (bcs (mid s i)).length = s.length := by rw [List.length_map, mid_len]
  have hld : (bcs (mid s i) ++ List.replicate r7 (Value.int .u8 0))[i]? = some (U8 (at_ s i).toNat) := by
   rw [List.getElem?_append_left (by omega), List.getElem?_map, mid_at s i (by omega)]; rfl
  refine .region (.run 1 rfl trivial (.val (.indexAddr (.of rfl) (.of rfl) (by omega) (by omega) Tryz.underlying214 Tryz.sizeOf5) rfl ?_))
  refine WL.val (.ldM (.of rfl) hS (k := 0) rfl Tryz.isAgg5 (by rw [Nat.zero_add, Int.toNat_natCast, Nat.mul_one]; exact hld)) rfl ?_
  refine .run 2 rfl trivial (.nil (.seq (.region (.run 3 rfl trivial (.gval rfl rfl (fun hg1 => (.move (.of rfl))) rfl (.gval rfl rfl (fun hg1 => (.leq (.gd hg1 rfl) (.of rfl))) rfl (.val (.pand (.of rfl) (.of rfl) (.of rfl)) rfl (.nil ?_))))))))
  refine WC.cond rfl (fun hb20 => ?_) (fun hb20 => ?_)
  ·
   have hc20 := hb20; try simp only [Gk.cs0] at hc20
   refine .region (.run 3 rfl trivial (.val (.addw (.of rfl) (.of rfl)) rfl (.val (.subw (.of rfl) (.of rfl)) rfl (.val (.indexAddr (.of rfl) (.of rfl) (by omega) (by omega) Tryz.underlying214 Tryz.sizeOf5) rfl ?_))))
   refine WL.st1M hS (k := 0) rfl (.of rfl) (.of rfl) rfl Tryz.sizeOf5 (by rw [List.length_append, hl1, List.length_replicate]; omega) ?_
   clear hS; intro w hS; try dsimp only [List.set] at hS
   refine .nil (.region (.run 2 rfl ⟨⟨by omega, by omega⟩, trivial⟩ (.nil ?_)))
   refine ⟨i + 1, ⟨rfl, rfl, rfl, rfl, trivial⟩, ⟨by omega, ?_⟩, by omega⟩
   have e := mid_succ s i (by omega)
   rw [Nat.zero_add, Int.toNat_natCast, Nat.mul_one] at hS
   rw [List.set_append_left _ _ (by omega), show Value.int .u8 (IntKind.u8.wrap ((IntKind.u8.wrap (((at_ s (i : Int)).toNat : Int) + 97)) - 65)) = U8 (lo (at_ s (i : Int))).toNat by
    have := lo_up (c := at_ s (i : Int)) (by simpa only [Bool.and_eq_true, decide_eq_true_eq] using hb20)
    rw [this, IntKind.wrap_u8, IntKind.wrap_u8]; congr 1; omega, ← List.map_set, e] at hS
   exact hS
  have hc20 := hb20; try simp only [Gk.cs0] at hc20
  refine .skip (.region (.run 2 rfl ⟨⟨by omega, by omega⟩, trivial⟩ (.nil ?_)))
  refine ⟨i + 1, ⟨rfl, rfl, rfl, rfl, trivial⟩, ⟨by omega, ?_⟩, by omega⟩
  rw [← mid_same s i (by omega) (lo_no (fun hh => by
   have : (decide (65 ≤ ((at_ s (i : Int)).toNat : Int)) && decide (((at_ s (i : Int)).toNat : Int) ≤ 90)) = true := by simp only [Bool.and_eq_true, decide_eq_true_eq]; exact hh
   rw [this] at hb20; cases hb20))]
  exact hS
 have hc11 := hb11; try simp only [Gk.cs0] at hc11
 refine .exit (.seq (.region (.run 1 rfl trivial ?_)))
 refine WL.val (.bytesStrM (l := low s) (b := m7) (o := 0) (cap := cap7) (.of (by rw [low_len]; rfl)) hS (k := 0) rfl Tryz.underlying214 Tryz.underlying5 Tryz.underlying9 (fun j hj => by
  rw [low_len] at hj
  rw [Nat.zero_add, List.getElem?_append_left (by rw [List.length_map, mid_len]; omega), List.getElem?_map, mid_end s i (by omega), List.getElem?_eq_getElem (by rw [low_len]; omega)]
  rfl)) rfl ?_
 refine .run 1 rfl trivial (.nil (.ret (ret1 Tryz.results148 rfl ?_)))
 exact ⟨_, rfl, rfl, hS.drop (k := 0) rfl⟩
theorem host_any (s : List UInt8) (w : World) :
  Calls Tryz.prog 150 [S s].toArray w (Ret fun v w' => v = .bool (hostOk s) ∧ w = w') := by
 obtain ⟨w0, hw0⟩ : ∃ w0, w = w0 := ⟨_, rfl⟩
 rw [show (fun (v : Value) (w' : World) => v = .bool (hostOk s) ∧ w = w') = (fun v w' => v = .bool (hostOk s) ∧ w0 = w') by rw [hw0]]
 refine calls Tryz.func150 rfl Tryz.ntmps150 rfl (.seq (.region (.run 1 rfl trivial (.nil (.seq (.seq (.region (.run 3 rfl trivial (.gval rfl rfl (fun hg1 => (.move (.of rfl))) rfl (.gval rfl rfl (fun hg1 => (.len (.gd hg1 rfl) Tryz.underlying9)) rfl (.gval rfl rfl (fun hg1 => (.gtr (.gd hg1 rfl) (.of rfl))) rfl (.val (.por (.of rfl) (.of rfl) (.of rfl)) rfl (.nil ?_)))))))))))))
 refine WC.cond rfl (fun hb11 => ?_) (fun hb11 => ?_)
 ·
  have hc11 := hb11; try simp only [Gk.cs0] at hc11
  refine .seq (.region (.run 1 rfl trivial (.nil (.ret (ret1 Tryz.results150 rfl ?_)))))
  refine ⟨_, rfl, ?_, hw0.symm⟩
  congr 1
  rw [hostOk]
  rcases Bool.or_eq_true_iff.1 hb11 with h | h
  ·rw [show s = [] by simpa using h]; rfl
  ·simp only [decide_eq_true_eq] at h
   rw [show decide (64 < s.length) = true from decide_eq_true (by omega)]; simp
 have hc11 := hb11; try simp only [Gk.cs0] at hc11
 refine .skip (.seq (.seq (.region (.run 3 rfl ⟨Tryz.underlying9, trivial⟩ (.nil (.block (.loop (σ := Nat) (fun i => [(0, S s), (13, I64 (s.length : Nat)), (14, I64 (i : Nat))]) (fun i w => i ≤ s.length ∧ (∀ j, j < i → j < s.length → hostB (at_ s (j : Int)) = true) ∧ w = w0) (fun i => s.length - i) 0 ⟨rfl, rfl, rfl, trivial⟩ ⟨Nat.zero_le _, fun _ h => absurd h (by omega), hw0⟩ ?_)))))))
 rintro i w ⟨hi, hok, hw⟩
 change WC _ _ _ _ [(0, S s), (13, I64 (s.length : Nat)), (14, I64 (i : Nat))] w
 refine .seq (.region (.run 1 rfl trivial (.nil (.seq ?_))))
 refine WC.cond rfl (fun hb15 => ?_) (fun hb15 => ?_)
 ·
  have hc15 := hb15; try simp only [Gk.cs0] at hc15
  refine .skip (.seq (.block (.seq (.region (.run 2 rfl trivial (.nil (.seq (.region (.run 4 rfl ⟨⟨⟨by omega, by omega⟩, Tryz.underlying9⟩, trivial⟩ (.nil (.seq (.region (.run 1 rfl trivial (.call Tryz.func183 rfl (evs_cons (.of rfl) evs_nil) rfl (Plain_any _ _) ?_))))))))))))))
  rintro _ _ ⟨rfl, rfl⟩
  refine .run 2 rfl trivial (.gval rfl rfl (fun hg1 => (.move (.of rfl))) rfl (.gval rfl rfl (fun hg1 => (.eql (.gd hg1 rfl) (.of rfl))) rfl (.val (.por (.of rfl) (.of rfl) (.of rfl)) rfl (.run 1 rfl trivial (.gval rfl rfl (fun hg1 => (.move (.of rfl))) rfl (.gval rfl rfl (fun hg1 => (.eql (.gd hg1 rfl) (.of rfl))) rfl (.val (.por (.of rfl) (.of rfl) (.of rfl)) rfl (.nil ?_))))))))
  refine WC.cond rfl (fun hb30 => ?_) (fun hb30 => ?_)
  ·
   have hc30 := hb30; try simp only [Gk.cs0] at hc30
   refine .seq (.region (.run 1 rfl trivial (.nil (.ret (ret1 Tryz.results150 rfl ?_)))))
   refine ⟨_, rfl, ?_, hw.symm⟩
   rw [hostB_int] at hb30
   rw [hostOk, not_all (p := hostB) (i := i) (by omega) (by simpa using hb30), Bool.and_false]
  have hc30 := hb30; try simp only [Gk.cs0] at hc30
  refine .skip (.region (.run 2 rfl ⟨⟨by omega, by omega⟩, trivial⟩ (.nil ?_)))
  refine ⟨i + 1, ⟨rfl, rfl, rfl, trivial⟩, ⟨by omega, fun j hj hjl => ?_, hw⟩, by omega⟩
  rcases Nat.lt_or_ge j i with h1 | h1
  ·exact hok j h1 hjl
  ·have e : j = i := by omega
   subst e
   rw [hostB_int] at hb30
   simpa using hb30
 have hc15 := hb15; try simp only [Gk.cs0] at hc15
 refine .exit (.seq (.region (.run 1 rfl trivial (.nil (.ret (ret1 Tryz.results150 rfl ?_))))))
 refine ⟨_, rfl, ?_, hw.symm⟩
 rw [hostOk, all_of hok (by omega), Bool.and_true]
 obtain ⟨h1, h2⟩ := (Bool.or_eq_false_iff).1 hb11
 rw [show decide (64 < s.length) = false from decide_eq_false (by simp only [decide_eq_false_iff_not] at h2; omega), show s.isEmpty = false by cases s with | nil => simp at h1 | cons a b => rfl]
 rfl
theorem stands_any (s : List UInt8) (hl : s.length ≤ 1000000) (w : World) :
  Calls Tryz.prog 186 [S s].toArray w (Ret fun v w' => v = .bool (s.all standB) ∧ w = w') := by
 obtain ⟨w0, hw0⟩ : ∃ w0, w = w0 := ⟨_, rfl⟩
 rw [show (fun (v : Value) (w' : World) => v = .bool (s.all standB) ∧ w = w') = (fun v w' => v = .bool (s.all standB) ∧ w0 = w') by rw [hw0]]
 refine calls Tryz.func186 rfl Tryz.ntmps186 rfl (.seq (.region (.run 1 rfl trivial (.nil (.seq (.seq (.region (.run 3 rfl ⟨Tryz.underlying9, trivial⟩ (.nil (.block (.loop (σ := Nat) (fun i => [(0, S s), (6, I64 (s.length : Nat)), (7, I64 (i : Nat))]) (fun i w => i ≤ s.length ∧ (∀ j, j < i → j < s.length → standB (at_ s (j : Int)) = true) ∧ w = w0) (fun i => s.length - i) 0 ⟨rfl, rfl, rfl, trivial⟩ ⟨Nat.zero_le _, fun _ h => absurd h (by omega), hw0⟩ ?_)))))))))))
 rintro i w ⟨hi, hok, hw⟩
 change WC _ _ _ _ [(0, S s), (6, I64 (s.length : Nat)), (7, I64 (i : Nat))] w
 refine .seq (.region (.run 1 rfl trivial (.nil (.seq ?_))))
 refine WC.cond rfl (fun hb8 => ?_) (fun hb8 => ?_)
 ·
  have hc8 := hb8; try simp only [Gk.cs0] at hc8
  refine .skip (.seq (.block (.seq (.region (.run 2 rfl trivial (.nil (.seq (.region (.run 4 rfl ⟨⟨⟨by omega, by omega⟩, Tryz.underlying9⟩, trivial⟩ (.nil (.seq (.region (.run 3 rfl trivial (.gval rfl rfl (fun hg1 => (.move (.of rfl))) rfl (.gval rfl rfl (fun hg1 => (.gtr (.gd hg1 rfl) (.of rfl))) rfl (.val (.por (.of rfl) (.of rfl) (.of rfl)) rfl (.run 1 rfl trivial (.gval rfl rfl (fun hg1 => (.move (.of rfl))) rfl ?_))))))))))))))))))
  refine WL.gcall (T := fun w => w = w0) rfl rfl rfl Tryz.func181 rfl (fun hg1 => (evs_cons (.of rfl) (evs_cons (.gd hg1 rfl) evs_nil))) rfl (fun hg1 => (IndexByte_any BAD (at_ s (i : Int)) _).mono (fun e w2 he => by obtain ⟨v, a, b, c⟩ := he; exact ⟨v, a, b, by rw [← c]; exact hw⟩)) hw ?_
  rintro w hw
  refine .gval rfl rfl (fun hg1 => (.geq (.gd hg1 rfl) (.of rfl))) rfl (.val (.por (.of rfl) (.of rfl) (.of rfl)) rfl (.nil ?_))
  refine WC.cond rfl (fun hb23 => ?_) (fun hb23 => ?_)
  ·
   have hc23 := hb23; try simp only [Gk.cs0] at hc23
   refine .seq (.region (.run 1 rfl trivial (.nil (.ret (ret1 Tryz.results186 rfl ?_)))))
   refine ⟨_, rfl, ?_, hw.symm⟩
   rw [standB_int] at hb23
   rw [not_all (p := standB) (i := i) (by omega) (by simpa using hb23)]
  have hc23 := hb23; try simp only [Gk.cs0] at hc23
  refine .skip (.region (.run 2 rfl ⟨⟨by omega, by omega⟩, trivial⟩ (.nil ?_)))
  refine ⟨i + 1, ⟨rfl, rfl, rfl, trivial⟩, ⟨by omega, fun j hj hjl => ?_, hw⟩, by omega⟩
  rcases Nat.lt_or_ge j i with h1 | h1
  ·exact hok j h1 hjl
  ·have e : j = i := by omega
   subst e
   rw [standB_int] at hb23
   simpa using hb23
 have hc8 := hb8; try simp only [Gk.cs0] at hc8
 refine .exit (.seq (.region (.run 1 rfl trivial (.nil (.ret (ret1 Tryz.results186 rfl ?_))))))
 refine ⟨_, rfl, ?_, hw.symm⟩
 rw [all_of hok (by omega)]
theorem val_small (s : List UInt8) (i : Nat) (h4 : i ≤ 4) (h : ∀ j, j < i → j < s.length → digB (at_ s (j : Int)) = true) : val (s.take i) ≤ 9999 := by
 have step : ∀ k, k ≤ i → val (s.take k) + 1 ≤ 10 ^ k := by
  intro k
  induction k with
  | zero => intro _; simp [val]
  | succ k ih =>
   intro hk
   have := ih (by omega)
   rcases Nat.lt_or_ge k s.length with hl | hl
   ·rw [val_take s k hl, Nat.pow_succ]
    have hd := h k (by omega) hl
    simp only [digB, Bool.and_eq_true, decide_eq_true_eq, UInt8.le_iff_toNat_le] at hd
    have e1 : (48 : UInt8).toNat = 48 := rfl
    have e2 : (57 : UInt8).toNat = 57 := rfl
    rw [e1, e2] at hd
    omega
   ·rw [show s.take (k + 1) = s.take k by rw [List.take_of_length_le (by omega), List.take_of_length_le (by omega)], Nat.pow_succ]
    omega
 have h1 := step i (Nat.le_refl _)
 have h2 : 10 ^ i ≤ 10 ^ 4 := Nat.pow_le_pow_right (by decide) h4
 have h3 : 10 ^ 4 = 10000 := by decide
 omega
theorem port_any (s sch : List UInt8) (hl : s.length ≤ 1000000) (w : World) :
  Calls Tryz.prog 152 [S s, S sch].toArray w (Ret fun v w' => v = (if portOk s then Value.tuple #[I64 (portV s sch : Nat), .bool true] else .tuple #[I64 0, .bool false]) ∧ w = w') := by
 obtain ⟨w0, hw0⟩ : ∃ w0, w = w0 := ⟨_, rfl⟩
 rw [show (fun (v : Value) (w' : World) => v = (if portOk s then Value.tuple #[I64 (portV s sch : Nat), .bool true] else .tuple #[I64 0, .bool false]) ∧ w = w') = (fun v w' => v = (if portOk s then Value.tuple #[I64 (portV s sch : Nat), .bool true] else .tuple #[I64 0, .bool false]) ∧ w0 = w') by rw [hw0]]
 refine calls Tryz.func152 rfl Tryz.ntmps152 rfl (.seq (.region (.run 2 rfl trivial (.nil (.seq (.region (.run 1 rfl trivial (.nil (.seq (.seq (.region (.run 3 rfl ⟨Tryz.underlying9, trivial⟩ (.nil (.block (.loop (σ := Nat) (fun i => [(0, S s), (1, S sch), (6, I64 (val (s.take i) : Nat)), (10, I64 (s.length : Nat)), (11, I64 (i : Nat))]) (fun i w => i ≤ s.length ∧ i ≤ 5 ∧ (∀ j, j < i → j < s.length → digB (at_ s (j : Int)) = true) ∧ (0 < i → at_ s 0 ≠ 48) ∧ w = w0) (fun i => s.length - i) 0 ⟨rfl, rfl, rfl, rfl, rfl, trivial⟩ ⟨Nat.zero_le _, by decide, fun _ h => absurd h (by omega), fun h => absurd h (by omega), hw0⟩ ?_)))))))))))))))
 rintro i w ⟨hi, hi5, hok, h0, hw⟩
 change WC _ _ _ _ [(0, S s), (1, S sch), (6, I64 (val (s.take i) : Nat)), (10, I64 (s.length : Nat)), (11, I64 (i : Nat))] w
 refine .seq (.region (.run 1 rfl trivial (.nil (.seq ?_))))
 refine WC.cond rfl (fun hb12 => ?_) (fun hb12 => ?_)
 ·
  have hc12 := hb12; try simp only [Gk.cs0] at hc12
  refine .skip (.seq (.block (.seq (.region (.run 2 rfl trivial (.nil (.seq (.region (.run 4 rfl ⟨⟨⟨by omega, by omega⟩, Tryz.underlying9⟩, trivial⟩ (.nil (.seq (.seq (.region (.run 3 rfl trivial (.gval rfl rfl (fun hg1 => (.move (.of rfl))) rfl (.gval rfl rfl (fun hg1 => (.gtr (.gd hg1 rfl) (.of rfl))) rfl (.val (.por (.of rfl) (.of rfl) (.of rfl)) rfl (.run 1 rfl trivial (.gval rfl rfl (fun hg1 => (.move (.of rfl))) rfl (.gval rfl rfl (fun hg1 => (.eql (.gd hg1 rfl) (.of rfl))) rfl (.gval rfl rfl (fun hg1 => (.move (.gd hg1 rfl))) rfl (.gval2 rfl rfl rfl (fun hg1 hg2 => (.move (.of rfl))) rfl (.gval2 rfl rfl rfl (fun hg1 hg2 => (.eql (.gd2 hg1 hg2 rfl) (.of rfl))) rfl (.gval rfl rfl (fun hg1 => (.pand (.gd hg1 rfl) (.gd hg1 rfl) (.of rfl))) rfl (.val (.por (.of rfl) (.of rfl) (.of rfl)) rfl (.run 1 rfl trivial (.gval rfl rfl (fun hg1 => (.move (.of rfl))) rfl (.gval rfl rfl (fun hg1 => (.gtr (.gd hg1 rfl) (.of rfl))) rfl (.val (.por (.of rfl) (.of rfl) (.of rfl)) rfl (.nil ?_))))))))))))))))))))))))))))))
  refine WC.cond rfl (fun hb34 => ?_) (fun hb34 => ?_)
  ·
   have hc34 := hb34; try simp only [Gk.cs0] at hc34
   refine .seq (.region (.run 2 rfl trivial (.nil (.ret (ret2 Tryz.results152 rfl rfl ?_)))))
   have hbad : portOk s = false := by
    have h := hb34
    rcases Bool.or_eq_true_iff.1 h with h | h
    ·rcases Bool.or_eq_true_iff.1 h with h | h
     ·rw [digB_int] at h
      unfold portOk
      rw [not_all (p := digB) (i := i) (by omega) (by simpa using h)]
      rfl
     ·simp only [Bool.and_eq_true, beq_iff_eq] at h
      have e0 : i = 0 := by omega
      subst e0
      unfold portOk
      have : s.headD 0 = 48 := by
       have h2 : (at_ s ((0 : Nat) : Int)).toNat = 48 := by omega
       have h3 : at_ s ((0 : Nat) : Int) = 48 := UInt8.toNat_inj.1 h2
       cases s with
       | nil => simp at hc12
       | cons a b => exact h3
      rw [this]
      simp
    ·simp only [decide_eq_true_eq] at h
     have e5 : i = 5 := by omega
     have hd0 := hok 0 (by omega) (by omega)
     unfold portOk
     rw [decide_eq_false (show ¬ val s ≤ 65535 from fun hh => by have := val_six s (by omega) hd0 (h0 (by omega)); omega)]
     simp
   refine ⟨_, rfl, ?_, hw.symm⟩
   rw [if_neg (by rw [Bool.not_eq_true]; exact hbad)]
  have hc34 := hb34; try simp only [Gk.cs0] at hc34
  refine .skip ?_
  have hbyte := (at_ s (i : Int)).toNat_lt
  have hnb : ¬ (((decide (((at_ s (i : Int)).toNat : Int) < 48) || decide (57 < ((at_ s (i : Int)).toNat : Int))) || ((i : Int) == 0) && (((at_ s (i : Int)).toNat : Int) == 48)) || decide (4 < (i : Int))) = true := by rw [hb34]; decide
  have hdig : digB (at_ s (i : Int)) = true := by
   cases hd : digB (at_ s (i : Int)) with
   | true => rfl
   | false => exact absurd (by rw [digB_int, hd]; rfl) hnb
  have hrg : 48 ≤ (at_ s (i : Int)).toNat ∧ (at_ s (i : Int)).toNat ≤ 57 := by
   have := hdig
   simp only [digB, Bool.and_eq_true, decide_eq_true_eq, UInt8.le_iff_toNat_le] at this
   have e1 : (48 : UInt8).toNat = 48 := rfl
   have e2 : (57 : UInt8).toNat = 57 := rfl
   rw [e1, e2] at this; exact this
  have hi4 : i ≤ 4 := by
   rcases Nat.lt_or_ge 4 i with h | h
   ·exact absurd (by rw [decide_eq_true (show 4 < (i : Int) by omega), Bool.or_true]) hnb
   ·exact h
  have hh0 : i = 0 → (at_ s (i : Int)).toNat ≠ 48 := fun e h => absurd (by
   rw [show ((i : Int) == 0) = true by simp [e], show (((at_ s (i : Int)).toNat : Int) == 48) = true by simp [h]]; simp) hnb
  have hv4 := val_small s i hi4 hok
  refine .region (.run 3 rfl ⟨⟨by omega, by omega⟩, trivial⟩ ?_)
  refine WL.val (.subx (.of rfl) (.of rfl) (by rw [IntKind.wrap_u8]; omega)) rfl ?_
  refine WL.val (.cvi (.of rfl) Tryz.underlying5 Tryz.underlying3 (by rw [IntKind.wrap_i64]; omega)) rfl ?_
  refine .run 2 rfl ⟨⟨by omega, by omega⟩, trivial⟩ (.nil (.region (.run 2 rfl ⟨⟨by omega, by omega⟩, trivial⟩ (.nil ?_))))
  refine ⟨i + 1, ⟨rfl, rfl, ?_, rfl, rfl, trivial⟩, ⟨by omega, by omega, fun j hj hjl => ?_, fun _ => ?_, hw⟩, by omega⟩
  ·rw [val_take s i (by omega)]
   show some _ = some _
   congr 3
   omega
  ·rcases Nat.lt_or_ge j i with h1 | h1
   ·exact hok j h1 hjl
   ·have e : j = i := by omega
    rw [e]; exact hdig
  ·rcases Nat.eq_zero_or_pos i with e | e
   ·subst e
    intro h
    exact hh0 rfl (by show (at_ s ((0 : Nat) : Int)).toNat = 48; rw [show ((0 : Nat) : Int) = 0 from rfl, h]; rfl)
   ·exact h0 e
 have hc12 := hb12; try simp only [Gk.cs0] at hc12
 refine .exit (.seq (.seq (.region (.run 3 rfl trivial (.gval rfl rfl (fun hg1 => (.move (.of rfl))) rfl (.gval rfl rfl (fun hg1 => (.gtr (.gd hg1 rfl) (.of rfl))) rfl (.val (.por (.of rfl) (.of rfl) (.of rfl)) rfl (.nil ?_))))))))
 refine WC.cond rfl (fun hb47 => ?_) (fun hb47 => ?_)
 ·
  have hc47 := hb47; try simp only [Gk.cs0] at hc47
  refine .seq (.region (.run 2 rfl trivial (.nil (.ret (ret2 Tryz.results152 rfl rfl ?_)))))
  have hlen : s.length = i := by omega
  rw [← hlen, List.take_length] at hb47
  have hbad : portOk s = false := by
   unfold portOk
   rcases Bool.or_eq_true_iff.1 hb47 with h | h
   ·simp only [decide_eq_true_eq] at h
    rw [decide_eq_false (show ¬ 1 ≤ val s by omega)]; simp
   ·simp only [decide_eq_true_eq] at h
    rw [decide_eq_false (show ¬ val s ≤ 65535 by omega)]; simp
  refine ⟨_, rfl, ?_, hw.symm⟩
  rw [if_neg (by rw [Bool.not_eq_true]; exact hbad)]
 have hc47 := hb47; try simp only [Gk.cs0] at hc47
 refine .skip (.seq (.seq (.region (.run 2 rfl trivial (.call Tryz.func185 rfl (evs_cons (.of rfl) evs_nil) rfl (own_any sch _) ?_)))))
 rintro _ w ⟨rfl, hw1⟩
 rw [hw] at hw1
 refine .run 1 rfl trivial (.nil ?_)
 refine WC.cond rfl (fun hb51 => ?_) (fun hb51 => ?_)
 ·
  have hc51 := hb51; try simp only [Gk.cs0] at hc51
  refine .region (.run 1 rfl trivial (.nil (.seq (.region (.run 3 rfl trivial (.nil (.ret (ret2 Tryz.results152 rfl rfl ?_))))))))
  have hlen : s.length = i := by omega
  have hb47' := hb47
  rw [← hlen, List.take_length] at hb47'
  have hgood : portOk s = true := by
   unfold portOk
   obtain ⟨h1, h2⟩ := Bool.or_eq_false_iff.1 hb47'
   simp only [decide_eq_false_iff_not] at h1 h2
   have hne : s ≠ [] := fun e => by rw [e] at h1; simp [val] at h1
   have hp : 0 < s.length := List.length_pos_iff.2 hne
   rw [all_of hok (by omega), decide_eq_true (show 1 ≤ val s by omega), decide_eq_true (show val s ≤ 65535 by omega)]
   have := h0 (by omega)
   have e : s.headD 0 = at_ s 0 := by cases s with | nil => exact absurd rfl hne | cons a b => rfl
   rw [e]
   simp [this]
  refine ⟨_, rfl, ?_, hw1⟩
  rw [if_pos hgood, portV]
  have hb51' := hb51
  rw [← hlen, List.take_length] at hb51'
  rw [if_pos (by simp only [beq_iff_eq] at hb51'; omega)]; rfl
 have hc51 := hb51; try simp only [Gk.cs0] at hc51
 refine .skip (.seq (.region (.run 3 rfl trivial (.nil (.ret (ret2 Tryz.results152 rfl rfl ?_))))))
 have hlen : s.length = i := by omega
 have hb47' := hb47
 rw [← hlen, List.take_length] at hb47'
 have hgood : portOk s = true := by
  unfold portOk
  obtain ⟨h1, h2⟩ := Bool.or_eq_false_iff.1 hb47'
  simp only [decide_eq_false_iff_not] at h1 h2
  have hne : s ≠ [] := fun e => by rw [e] at h1; simp [val] at h1
  have hp : 0 < s.length := List.length_pos_iff.2 hne
  rw [all_of hok (by omega), decide_eq_true (show 1 ≤ val s by omega), decide_eq_true (show val s ≤ 65535 by omega)]
  have := h0 (by omega)
  have e : s.headD 0 = at_ s 0 := by cases s with | nil => exact absurd rfl hne | cons a b => rfl
  rw [e]
  simp [this]
 refine ⟨_, rfl, ?_, hw1⟩
 rw [if_pos hgood, portV]
 have hb51' := hb51
 rw [← hlen, List.take_length] at hb51'
 rw [if_neg (by simp only [beq_eq_false_iff_ne] at hb51'; omega), ← hlen, List.take_length]
end Go.Proofs.YtadhiihnnkcagaaGreatDoor
namespace Go.Proofs.YtadhiihnnkcagaaGreatDoor
open Gk Pc Ul
set_option linter.unusedVariables false
set_option linter.unusedSimpArgs false
theorem Should_any (n : Int) (w : World) :
  Calls Tryz.prog 207 [I64 n].toArray w (Ret fun v w' => v = .bool (decide (8 < n)) ∧ w = w') := by
 refine calls Tryz.func207 rfl Tryz.ntmps207 rfl (.seq (.region (.run 1 rfl trivial (.nil (.seq (.region (.run 3 rfl trivial (.nil (.ret (ret1 Tryz.results207 rfl ?_))))))))))
 exact ⟨_, rfl, rfl, rfl⟩
theorem ValidRune_any (r : Int) (w : World) : Calls Tryz.prog 224 [.int .i32 r].toArray w (Ret fun v w' => v = .bool (Go.Lib.validRune r) ∧ w = w') :=
 (Tryz.utf8_ValidRune r w).mono fun e w' he => by
  obtain ⟨rfl, rfl⟩ := he
  exact ⟨_, rfl, rfl, rfl⟩
theorem IndexRune_hi (cs : List UInt8) (hca : Asc cs) (hl : cs.length ≤ 1000) (r : Int) (h0 : 128 ≤ r) (h1 : r ≤ 1114111) (B w : World) (I : Im) (As : List Assn) (hS : Sat B w I As) :
  Calls Tryz.prog 206 [S cs, .int .i32 r].toArray w (Ret fun v w' => v = I64 (-1) ∧ Sat B w' I As) := by
 refine calls Tryz.func206 rfl Tryz.ntmps206 rfl (.seq (.region (.run 1 rfl trivial (.nil (.block (.seq (.region (.run 3 rfl trivial (.gval rfl rfl (fun hg1 => (.move (.of rfl))) rfl (.gval rfl rfl (fun hg1 => (.lss (.gd hg1 rfl) (.of rfl))) rfl (.val (.pand (.of rfl) (.of rfl) (.of rfl)) rfl (.run 1 rfl trivial (.nil ?_)))))))))))))
 refine WC.cond rfl (fun hb160 => by exfalso; simp only [Gk.cs0] at hb160; omega) (fun hb160 => ?_)
 have hc160 := hb160; try simp only [Gk.cs0] at hc160
 refine .seq (.region (.run 3 rfl trivial (.nil ?_)))
 refine WC.cond rfl (fun hb171 => ?_) (fun hb171 => ?_)
 ·
  have hc171 := hb171; try simp only [Gk.cs0] at hc171
  refine .seq (.seq (.region (.run 1 rfl trivial (.range (s := cs) hS (.of rfl) Tryz.underlying9 rfl ?_))))
  clear hS; intro b175 w hS
  refine .nil (.block (.loop (σ := Nat) (fun i => [(175, ptr b175 0)]) (fun i w => i ≤ cs.length ∧ Sat B w I (own b175 (.stringIter ⟨cs.toArray⟩ i) :: As)) (fun i => cs.length - i) 0 ⟨rfl, trivial⟩ ⟨Nat.zero_le _, hS⟩ ?_))
  rintro i w ⟨hi, hS⟩
  change WC _ _ _ _ [(175, ptr b175 0)] w
  refine .seq (.region ?_)
  refine WL.next (i := i) hS (k := 0) rfl (.of rfl) rfl (fun hn => ?_) (fun hn => ?_)
  ·
   refine .run 1 rfl trivial (.nil (.seq (.condF (rfl) (.exit (.seq (.region (.run 1 rfl trivial (.nil (.ret (ret1 Tryz.results206 rfl ?_))))))))))
   exact ⟨_, rfl, rfl, hS.drop (k := 0) rfl⟩
  ·
   rw [decode_lo cs i hn (hca i _ (at_some hn))]
   have hb7 := hca i _ (at_some hn)
   clear hS; intro w hS; try dsimp only [List.set] at hS
   refine .run 1 rfl trivial (.nil (.seq (.condT (rfl) (.skip (.block (.seq (.region (.run 4 rfl trivial (.nil (.seq (.region (.run 2 rfl trivial (.nil ?_)))))))))))))
   refine WC.cond rfl (fun hb181 => by exfalso; simp only [Gk.cs0] at hb181; omega) (fun hb181 => ?_)
   have hc181 := hb181; try simp only [Gk.cs0] at hc181
   refine .skip ?_
   exact ⟨i + 1, ⟨rfl, trivial⟩, ⟨by omega, hS⟩, by omega⟩
 have hc171 := hb171; try simp only [Gk.cs0] at hc171
 refine .seq (.region (.run 1 rfl trivial (.call Tryz.func224 rfl (evs_cons (.of rfl) evs_nil) rfl (ValidRune_any r _) ?_)))
 rintro _ _ ⟨rfl, rfl⟩
 refine .run 2 rfl trivial (.nil ?_)
 refine WC.cond rfl (fun hb183 => ?_) (fun hb183 => ?_)
 ·
  have hc183 := hb183; try simp only [Gk.cs0] at hc183
  refine .seq (.region (.run 1 rfl trivial (.nil (.ret (ret1 Tryz.results206 rfl ?_)))))
  exact ⟨_, rfl, rfl, hS⟩
 have hc183 := hb183; try simp only [Gk.cs0] at hc183
 refine .scope (.seq ?_)
 have hvv : Go.Utf8.valid r = true := valid_eq r (by simpa using hb183)
 obtain ⟨he2, he4, heb⟩ := enc_facts r hvv h0
 refine .region (.run 1 rfl trivial ?_)
 refine WL.val (.runeStr (.of rfl) (by rw [Tryz.underlying21]; rfl) Tryz.underlying9) rfl ?_
 refine .run 1 rfl trivial (.nil (.seq (.region (.run 4 rfl ⟨Tryz.underlying9, ⟨by omega, by omega⟩, trivial⟩ (.nil (.seq (.region (.run 2 rfl trivial (.nil (.seq (.region (.run 1 rfl trivial (.nil (.seq (.block (.loop (σ := Unit) (fun _ => [(0, S cs), (7, S (encR r)), (8, I64 ((((encR r).length : Nat) : Int) - 1)), (9, I64 ((((encR r).length : Nat) : Int) - 1))]) (fun _ w => Sat B w I As) (fun _ => 0) () ⟨rfl, rfl, rfl, rfl, trivial⟩ hS ?_))))))))))))))))
 rintro _ w hS
 change WC _ _ _ _ [(0, S cs), (7, S (encR r)), (8, I64 ((((encR r).length : Nat) : Int) - 1)), (9, I64 ((((encR r).length : Nat) : Int) - 1))] w
 refine .seq (.seq (.region (.run 4 rfl ⟨Tryz.underlying9, trivial⟩ (.nil ?_))))
 refine WC.cond rfl (fun hb26 => ?_) (fun hb26 => ?_)
 ·
  have hc26 := hb26; try simp only [Gk.cs0] at hc26
  refine .skip (.block (.scope (.seq (.seq ?_))))
  have hA : (at_ cs ((((encR r).length : Nat) : Int) - 1)).toNat < 128 := hca ((((encR r).length : Nat) : Int) - 1).toNat _ (by rw [at_, List.getD_eq_getElem?_getD, List.getElem?_eq_getElem (by omega)]; rfl)
  refine .quiet (by kernel_rfl) (by kernel_rfl) hS (.val (fun w hS => (.move (.of rfl))) rfl (.val (fun w hS => (.move (.of rfl))) rfl (.val (fun w hS => (.index (.of rfl) (.of rfl) (by omega) (by omega) Tryz.underlying9)) rfl (.val (fun w hS => (.move (.of rfl))) rfl (.val (fun w hS => (.move (.of rfl))) rfl (.val (fun w hS => (.index (.of rfl) (.of rfl) (by omega) (by omega) Tryz.underlying9)) rfl (.val (fun w hS => (.neq (.of rfl) (.of rfl))) rfl (.nil ?_))))))))
  clear hS; intro w hS
  refine WC.cond rfl (fun hb33 => ?_) (fun hb33 => by exfalso; simp only [Gk.cs0] at hb33; omega)
  have hc33 := hb33; try simp only [Gk.cs0] at hc33
  refine .seq (.quiet (by kernel_rfl) (by kernel_rfl) hS (.val (fun w hS => (.move (.of rfl))) rfl (.val (fun w hS => (.move (.of rfl))) rfl (.val (fun w hS => (.add (.of rfl) (.of rfl) ⟨by omega, by omega⟩)) rfl (.val (fun w hS => (.subFrom (.of rfl) (.of rfl) (by omega) (by omega) Tryz.underlying9)) rfl (.val (fun w hS => (.move (.of rfl))) rfl (.val (fun w hS => (.move (.of rfl))) rfl (.val (fun w hS => (.index (.of rfl) (.of rfl) (by omega) (by omega) Tryz.underlying9)) rfl (.call Tryz.func181 rfl (evs_cons (.of rfl) (evs_cons (.of rfl) evs_nil)) rfl (fun w hS => quiet_of (IndexByte_any _ (at_ (encR r) ((((encR r).length : Nat) : Int) - 1)) w) hS) (.val (fun w hS => (.assign (.of rfl))) rfl (.nil ?_)))))))))))
  clear hS; intro w hS
  refine .seq (.seq ?_)
  have hN := indexByte_hi (l := cs.drop ((((encR r).length : Nat) : Int) - 1 + 1).toNat) (c := at_ (encR r) ((((encR r).length : Nat) : Int) - 1)) heb (fun j b h => by rw [List.getElem?_drop] at h; exact hca _ _ h)
  refine .region (.run 2 rfl trivial (.nil ?_))
  refine WC.cond rfl (fun hb43 => ?_) (fun hb43 => by exfalso; simp only [Gk.cs0] at hb43; omega)
  have hc43 := hb43; try simp only [Gk.cs0] at hc43
  refine .seq (.region (.run 1 rfl trivial (.nil (.ret (ret1 Tryz.results206 rfl ?_)))))
  exact ⟨_, rfl, rfl, hS⟩
 have hc26 := hb26; try simp only [Gk.cs0] at hc26
 refine .exit (.seq (.seq (.region (.run 1 rfl trivial (.nil (.ret (ret1 Tryz.results206 rfl ?_)))))))
 exact ⟨_, rfl, rfl, hS⟩
theorem IndexRune_any (cs : List UInt8) (hca : Asc cs) (hl : cs.length ≤ 1000) (r : Nat) (h1 : r ≤ 1114111) (B w : World) (I : Im) (As : List Assn) (hS : Sat B w I As) : Calls Tryz.prog 206 [S cs, .int .i32 r].toArray w (Ret fun v w' => v = I64 (if r < 128 then Go.Lib.indexByte cs (UInt8.ofNat r) else -1) ∧ Sat B w' I As) := by
 rcases Nat.lt_or_ge r 128 with h | h
 ·refine (Tryz.strings_IndexRune_ascii ⟨cs.toArray⟩ r w (by omega) (by omega)).mono fun e w' he => ?_
  obtain ⟨rfl, rfl⟩ := he
  refine ⟨_, rfl, ?_, hS⟩
  rw [if_pos h]
  simp
 ·rw [if_neg (by omega)]
  exact IndexRune_hi cs hca hl r (by omega) (by omega) B w I As hS
theorem IndexAny_few (s cs : List UInt8) (hca : Asc cs) (hl : cs.length ≤ 1000) (h2 : 2 ≤ cs.length) (h8 : s.length ≤ 8) (hne : (cs == []) = false) (B w : World) (I : Im) (As : List Assn) (hS : Sat B w I As) :
  Calls Tryz.prog 182 [S s, S cs].toArray w (Ret fun v w' => v = I64 (Go.Lib.indexAny s cs) ∧ Sat B w' I As) := by
 refine calls Tryz.func182 rfl Tryz.ntmps182 rfl (.seq (.region (.run 1 rfl trivial (.nil (.seq (.seq (.region (.run 2 rfl trivial (.nil ?_)))))))))
 refine WC.condF (by show some (Value.bool (cs == [])) = _; rw [hne]) ?_
 refine .skip (.seq (.seq (.region (.run 3 rfl ⟨Tryz.underlying9, trivial⟩ (.nil ?_)))))
 refine WC.cond rfl (fun hb15 => by exfalso; simp only [Gk.cs0] at hb15; omega) (fun hb15 => ?_)
 have hc15 := hb15; try simp only [Gk.cs0] at hc15
 refine .skip (.seq (.seq (.region (.run 2 rfl ⟨Tryz.underlying9, trivial⟩ (.call Tryz.func207 rfl (evs_cons (.of rfl) evs_nil) rfl (Should_any _ _) ?_)))))
 rintro _ _ ⟨rfl, rfl⟩
 refine .nil ?_
 refine WC.cond rfl (fun hb26 => by exfalso; simp only [Gk.cs0] at hb26; omega) (fun hb26 => ?_)
 have hc26 := hb26; try simp only [Gk.cs0] at hc26
 refine .skip (.seq (.seq (.region (.run 1 rfl trivial (.range (s := s) hS (.of rfl) Tryz.underlying9 rfl ?_)))))
 clear hS; intro b45 w hS
 refine .nil (.block (.loop (σ := Nat) (fun i => [(1, S cs), (45, ptr b45 0)]) (fun i w => i ≤ s.length ∧ Go.Lib.NoAny s cs i ∧ Sat B w I (own b45 (.stringIter ⟨s.toArray⟩ i) :: As)) (fun i => s.length - i) 0 ⟨rfl, rfl, trivial⟩ ⟨Nat.zero_le _, Go.Lib.NoAny.zero _ _, hS⟩ ?_))
 rintro i w ⟨hi, hno, hS⟩
 change WC _ _ _ _ [(1, S cs), (45, ptr b45 0)] w
 refine .seq (.region ?_)
 refine WL.next (i := i) hS (k := 0) rfl (.of rfl) rfl (fun hn => ?_) (fun hn => ?_)
 ·
  refine .run 1 rfl trivial (.nil (.seq (.condF (rfl) (.exit (.seq (.region (.run 1 rfl trivial (.nil (.ret (ret1 Tryz.results182 rfl ?_))))))))))
  exact ⟨_, rfl, by rw [Go.Lib.indexAny_none (by rw [show s.length = i by omega]; exact hno)], hS.drop (k := 0) rfl⟩
 ·
  clear hS; intro w hS; try dsimp only [List.set] at hS
  refine .run 1 rfl trivial (.nil (.seq (.condT (rfl) (.skip (.block (.seq ?_))))))
  have hdm : (Go.Utf8.decode ⟨s.toArray⟩ i).1 ≤ 1114111 := by
   rcases Nat.lt_or_ge (at_ s (i : Int)).toNat 128 with h | h
   ·rw [decode_lo s i hn h]; dsimp only; omega
   ·exact (decode_hi s i hn h).2.1
  obtain ⟨hyes, hnot⟩ := any_step hca hn hno
  unfold rv at hyes hnot
  refine .region (.run 4 rfl trivial (.nil (.seq (.region (.run 2 rfl trivial (.call Tryz.func206 rfl (evs_cons (.of rfl) (evs_cons (.of rfl) evs_nil)) rfl (IndexRune_any cs hca hl (Go.Utf8.decode ⟨s.toArray⟩ i).1 hdm B _ I _ hS) ?_))))))
  clear hS
  rintro _ w ⟨rfl, hS⟩
  refine .run 1 rfl trivial (.nil ?_)
  refine WC.cond rfl (fun hb53 => ?_) (fun hb53 => ?_)
  ·
   have hc53 := hb53; try simp only [Gk.cs0] at hc53
   refine .seq (.region (.run 2 rfl trivial (.nil (.ret (ret1 Tryz.results182 rfl ?_)))))
   refine ⟨_, rfl, ?_, hS.drop (k := 0) rfl⟩
   rw [hyes (by omega)]
   rfl
  have hc53 := hb53; try simp only [Gk.cs0] at hc53
  refine .skip ?_
  obtain ⟨hn1, hn2, hn3⟩ := hnot (by omega)
  exact ⟨_, ⟨rfl, rfl, trivial⟩, ⟨hn2, hn1, hS⟩, by omega⟩
theorem IndexAny_any (s cs : List UInt8) (hs : s.length ≤ 1000000) (hca : Asc cs) (hl : cs.length ≤ 1000) (h2 : 2 ≤ cs.length) (B w : World) (I : Im) (As : List Assn) (hS : Sat B w I As) : Calls Tryz.prog 182 [S s, S cs].toArray w (Ret fun v w' => v = I64 (Go.Lib.indexAny s cs) ∧ Sat B w' I As) := by
 rcases Nat.lt_or_ge 8 s.length with h | h
 ·refine (Tryz.strings_IndexAny_long (zero_of_info (n := 256) (by kernel_rfl)).1 ⟨s.toArray⟩ ⟨cs.toArray⟩ w h2 h (by show s.length < _; omega) (by show cs.length < _; omega) hca).mono fun e w' he => ?_
  obtain ⟨rfl, rfl⟩ := he
  exact ⟨_, rfl, rfl, (((hS.alloc _).alloc _).drop (k := 0) rfl).drop (k := 0) rfl⟩
 ·exact IndexAny_few s cs hca hl h2 h (by cases cs with | nil => simp at h2 | cons a b => rfl) B w I As hS
theorem cut_any (s cs : List UInt8) (hs : s.length ≤ 1000000) (hca : Asc cs) (hl : cs.length ≤ 1000) (h2 : 2 ≤ cs.length) (B w : World) (I : Im) (As : List Assn) (hS : Sat B w I As) :
  Calls Tryz.prog 149 [S s, S cs].toArray w (Ret fun v w' => v = .tuple #[S (upto cs s), S (from_ cs s)] ∧ Sat B w' I As) := by
 refine calls Tryz.func149 rfl Tryz.ntmps149 rfl (.seq (.region (.run 2 rfl trivial (.nil (.seq (.seq (.region (.run 2 rfl trivial (.call Tryz.func182 rfl (evs_cons (.of rfl) (evs_cons (.of rfl) evs_nil)) rfl (IndexAny_any s cs hs hca hl h2 B _ I As hS) ?_)))))))))
 clear hS
 rintro _ w ⟨rfl, hS⟩
 refine .run 1 rfl trivial (.nil (.seq ?_))
 have hge := Go.Lib.indexAny_ge cs s
 refine .region (.run 2 rfl trivial (.nil ?_))
 refine WC.cond rfl (fun hb11 => ?_) (fun hb11 => ?_)
 ·
  have hc11 := hb11; try simp only [Gk.cs0] at hc11
  refine .seq ?_
  obtain ⟨k, hk⟩ : ∃ k : Nat, Go.Lib.indexAny s cs = k := ⟨(Go.Lib.indexAny s cs).toNat, by omega⟩
  obtain ⟨hc1, hc2, hc3⟩ := cut_hit hk
  rw [hk]
  refine .quiet (by kernel_rfl) (by kernel_rfl) hS (.val (fun w hS => (.move (.of rfl))) rfl (.val (fun w hS => (.move (.of rfl))) rfl (.val (fun w hS => (.subTo (.of rfl) (.of rfl) (by omega) (by omega) Tryz.underlying9)) rfl (.val (fun w hS => (.move (.of rfl))) rfl (.val (fun w hS => (.move (.of rfl))) rfl (.val (fun w hS => (.subFrom (.of rfl) (.of rfl) (by omega) (by omega) Tryz.underlying9)) rfl (.val (fun w hS => (.assign (.of rfl))) rfl (.val (fun w hS => (.assign (.of rfl))) rfl (.nil ?_)))))))))
  clear hS; intro w hS
  refine .ret (ret2 Tryz.results149 rfl rfl ?_)
  exact ⟨_, rfl, by rw [hc1, hc2, Int.toNat_natCast], hS⟩
 have hc11 := hb11; try simp only [Gk.cs0] at hc11
 refine .skip (.seq (.region (.run 3 rfl trivial (.nil (.ret (ret2 Tryz.results149 rfl rfl ?_))))))
 obtain ⟨hc1, hc2⟩ := cut_none (s := s) (ats := cs) (by omega)
 exact ⟨_, rfl, by rw [hc1, hc2], hS⟩
theorem pNormal_e (s : List UInt8) (hl : s.length ≤ 1000000) (B w : World) (I : Im) (hd : DigAt I) (As : List Assn) (hS : Sat B w I As) : Calls Tryz.prog 187 [S s].toArray w (Ret fun v w' => ∃ n1 e1, v = .tuple #[S n1, I64 e1] ∧ (match norm s with | none => n1 = [] ∧ e1 = 11 | some t => n1 = t ∧ e1 = 0) ∧ Sat B w' I As) :=
 (pNormal_any s hl B w I hd As hS).mono fun e w' he => by
  obtain ⟨v, rfl, rfl, h⟩ := he
  cases norm s with
  | none => exact ⟨_, rfl, _, _, rfl, ⟨rfl, rfl⟩, h⟩
  | some t => exact ⟨_, rfl, _, _, rfl, ⟨rfl, rfl⟩, h⟩
theorem normal_any (s : List UInt8) (hl : s.length ≤ 1000000) (B w : World) (I : Im) (hd : DigAt I) (As : List Assn) (hS : Sat B w I As) :
  Calls Tryz.prog 153 [S s].toArray w (Ret fun v w' => v = (match partU s with | none => .tuple #[S [], I64 15] | some t => .tuple #[S t, I64 0]) ∧ Sat B w' I As) := by
 refine calls Tryz.func153 rfl Tryz.ntmps153 rfl (.seq (.region (.run 2 rfl trivial (.nil (.seq (.seq (.region (.run 1 rfl trivial (.call Tryz.func186 rfl (evs_cons (.of rfl) evs_nil) rfl (stands_any s hl _) ?_)))))))))
 rintro _ _ ⟨rfl, rfl⟩
 refine .run 1 rfl trivial (.nil ?_)
 refine WC.cond rfl (fun hb8 => ?_) (fun hb8 => ?_)
 ·
  have hc8 := hb8; try simp only [Gk.cs0] at hc8
  refine .seq (.region (.run 2 rfl trivial (.nil (.ret (ret2 Tryz.results153 rfl rfl ?_)))))
  exact ⟨_, rfl, by rw [partU, if_neg (by rw [hc8]; decide)], hS⟩
 have hc8 := hb8; try simp only [Gk.cs0] at hc8
 refine .skip (.seq (.region (.run 1 rfl trivial (.call Tryz.func187 rfl (evs_cons (.of rfl) evs_nil) rfl (pNormal_e s hl B _ I hd As hS) ?_))))
 clear hS
 rintro _ w ⟨n1, e1, rfl, hne, hS⟩
 refine .run 5 rfl trivial (.nil (.seq (.seq (.region (.run 2 rfl trivial (.nil ?_))))))
 refine WC.cond rfl (fun hb15 => ?_) (fun hb15 => ?_)
 ·
  have hc15 := hb15; try simp only [Gk.cs0] at hc15
  refine .seq (.region (.run 2 rfl trivial (.nil (.ret (ret2 Tryz.results153 rfl rfl ?_)))))
  refine ⟨_, rfl, ?_, hS⟩
  rw [partU, if_pos hc8]
  cases hn : norm s with
  | none => rfl
  | some t => rw [hn] at hne; exact absurd hne.2 hc15
 have hc15 := hb15; try simp only [Gk.cs0] at hc15
 refine .skip (.seq (.region (.run 3 rfl trivial (.nil (.ret (ret2 Tryz.results153 rfl rfl ?_))))))
 refine ⟨_, rfl, ?_, hS⟩
 rw [partU, if_pos hc8]
 cases hn : norm s with
 | none => rw [hn] at hne; have := hne.2; omega
 | some t => rw [hn] at hne; obtain ⟨rfl, rfl⟩ := hne; rfl
end Go.Proofs.YtadhiihnnkcagaaGreatDoor
namespace Pat
set_option linter.unusedVariables false
set_option linter.unusedSimpArgs false
open Go Gk
theorem flat_get {α : Type} (enc : α → List Value) (s : Nat) (hs : ∀ x, (enc x).length = s) : ∀ (l : List α) (r : List Value) (i j : Nat) (x : α), l[i]? = some x → j < s → (l.flatMap enc ++ r)[i * s + j]? = (enc x)[j]?
 | [], _, _, _, _, h, _ => by simp at h
 | y :: l, r, 0, j, x, h, hj => by
  simp at h
  subst h
  simp only [List.flatMap_cons, Nat.zero_mul, Nat.zero_add, List.append_assoc]
  rw [List.getElem?_append_left (by rw [hs]; exact hj)]
 | y :: l, r, i + 1, j, x, h, hj => by
  simp only [List.flatMap_cons, List.append_assoc]
  rw [List.getElem?_append_right (by rw [hs, Nat.succ_mul]; omega), hs]
  have e : (i + 1) * s + j - s = i * s + j := by rw [Nat.succ_mul]; omega
  rw [e]
  exact flat_get enc s hs l r i j x (by simpa using h) hj
theorem flat_set {α : Type} (enc : α → List Value) (s : Nat) (hs : ∀ x, (enc x).length = s) (f : α → α) (j : Nat) (v : Value) (hf : ∀ x, enc (f x) = (enc x).set j v) (hj : j < s) : ∀ (l : List α) (r : List Value) (i : Nat), i < l.length → (l.flatMap enc ++ r).set (i * s + j) v = (l.modify i f).flatMap enc ++ r
 | [], _, _, h => by simp at h
 | y :: l, r, 0, _ => by
  simp only [List.flatMap_cons, Nat.zero_mul, Nat.zero_add, List.append_assoc]
  rw [List.set_append_left _ _ (by rw [hs]; exact hj)]
  simp [hf]
 | y :: l, r, i + 1, h => by
  simp only [List.flatMap_cons, List.append_assoc]
  rw [List.set_append_right _ _ (by rw [hs, Nat.succ_mul]; omega), hs]
  have e : (i + 1) * s + j - s = i * s + j := by rw [Nat.succ_mul]; omega
  rw [e, flat_set enc s hs f j v hf hj l r i (by simpa using h)]
  simp
theorem flat_len {α : Type} (enc : α → List Value) (s : Nat) (hs : ∀ x, (enc x).length = s) : ∀ (l : List α), (l.flatMap enc).length = l.length * s
 | [] => by simp
 | y :: l => by simp only [List.flatMap_cons, List.length_append, hs, flat_len enc s hs l, List.length_cons, Nat.succ_mul]; omega
abbrev Cell3 := Int × Int × Value
abbrev Pl := Int × Int × List Int
def enc (x : Cell3) : List Value := [.int .u8 x.1, .int .u8 x.2.1, x.2.2]
theorem enc_len (x : Cell3) : (enc x).length = 3 := rfl
def setTo (P : List Cell3) (i : Nat) (v : Value) : List Cell3 := P.modify i fun x => (x.1, x.2.1, v)
def setToL (Q : List Pl) (i : Nat) (xs : List Int) : List Pl := Q.modify i fun x => (x.1, x.2.1, xs)
theorem setTo_len (P : List Cell3) (i : Nat) (v : Value) : (setTo P i v).length = P.length := by simp [setTo]
theorem to_get {P : List Cell3} {i : Nat} {x : Cell3} (h : P[i]? = some x) (r : List Value) : (P.flatMap enc ++ r)[0 + i * 3 + 2]? = some x.2.2 := by
 rw [Nat.zero_add, flat_get enc 3 enc_len P r i 2 x h (by omega)]; rfl
theorem to_set {P : List Cell3} {i : Nat} (h : i < P.length) (r : List Value) (v : Value) : (P.flatMap enc ++ r).set (0 + i * 3 + 2) v = (setTo P i v).flatMap enc ++ r := by
 rw [Nat.zero_add]; exact flat_set enc 3 enc_len (fun x => (x.1, x.2.1, v)) 2 v (fun _ => rfl) (by omega) P r i h
def IntsI (I : Im) (v : Value) (xs : List Int) : Prop := (xs = [] → v = .slice none 0 0) ∧ ∃ a c, v = .slice a xs.length c ∧ xs.length ≤ c ∧ RS I a 1 xs.length (xs.map I64)
theorem IntsI.mono {I J : Im} {v : Value} {xs : List Int} (h : IntsI I v xs) (hl : Le I J) : IntsI J v xs := let ⟨h0, a, c, e, hc, hr⟩ := h; ⟨h0, a, c, e, hc, hr.mono hl⟩
theorem IntsI.nil (I : Im) : IntsI I (.slice none 0 0) [] := ⟨fun _ => rfl, none, 0, rfl, Nat.le_refl _, RS.nil I 1⟩
def RelP (I : Im) (P : List Cell3) (Q : List Pl) : Prop := P.length = Q.length ∧ ∀ (i : Nat) (p : Cell3) (q : Pl), P[i]? = some p → Q[i]? = some q → p.1 = q.1 ∧ p.2.1 = q.2.1 ∧ IntsI I p.2.2 q.2.2
theorem RelP.mono {I J : Im} {P : List Cell3} {Q : List Pl} (h : RelP I P Q) (hl : Le I J) : RelP J P Q := ⟨h.1, fun i p q hp hq => let ⟨a, b, c⟩ := h.2 i p q hp hq; ⟨a, b, c.mono hl⟩⟩
theorem RelP.nil (I : Im) : RelP I [] [] := ⟨rfl, fun _ _ _ h => by simp at h⟩
theorem RelP.snoc {I : Im} {P : List Cell3} {Q : List Pl} (h : RelP I P Q) (k c : Int) (v : Value) (xs : List Int) (hv : IntsI I v xs) : RelP I (P ++ [(k, c, v)]) (Q ++ [(k, c, xs)]) := by
 refine ⟨by simp [h.1], fun i p q hp hq => ?_⟩
 rcases Nat.lt_trichotomy i P.length with hi | hi | hi
 ·rw [List.getElem?_append_left hi] at hp
  rw [List.getElem?_append_left (by rw [← h.1]; exact hi)] at hq
  exact h.2 i p q hp hq
 ·subst hi
  rw [List.getElem?_append_right (Nat.le_refl _)] at hp
  rw [h.1, List.getElem?_append_right (Nat.le_refl _)] at hq
  simp at hp hq
  subst hp; subst hq
  exact ⟨rfl, rfl, hv⟩
 ·rw [List.getElem?_eq_none (by simp; omega)] at hp
  cases hp
theorem RelP.set {I : Im} {P : List Cell3} {Q : List Pl} (h : RelP I P Q) (i : Nat) (v : Value) (xs : List Int) (hv : IntsI I v xs) : RelP I (setTo P i v) (setToL Q i xs) := by
 refine ⟨by simp [setTo, setToL, h.1], fun j p q hp hq => ?_⟩
 unfold setTo at hp
 unfold setToL at hq
 rw [List.getElem?_modify] at hp hq
 by_cases e : i = j
 ·subst e
  simp only [if_true] at hp hq
  obtain ⟨p0, hp0, rfl⟩ := Option.map_eq_some_iff.1 hp
  obtain ⟨q0, hq0, rfl⟩ := Option.map_eq_some_iff.1 hq
  obtain ⟨a, b, _⟩ := h.2 i p0 q0 hp0 hq0
  exact ⟨a, b, hv⟩
 ·simp only [e, if_false] at hp hq
  exact h.2 j p q (by simpa using hp) (by simpa using hq)
def RelX (I : Im) (o : Nat) (P : List Cell3) (Q : List Pl) : Prop := P.length = Q.length ∧ ∀ (i : Nat) (p : Cell3) (q : Pl), P[i]? = some p → Q[i]? = some q → p.1 = q.1 ∧ p.2.1 = q.2.1 ∧ (i ≠ o → IntsI I p.2.2 q.2.2)
theorem RelX.mono {I J : Im} {o : Nat} {P : List Cell3} {Q : List Pl} (h : RelX I o P Q) (hl : Le I J) : RelX J o P Q := ⟨h.1, fun i p q hp hq => let ⟨a, b, c⟩ := h.2 i p q hp hq; ⟨a, b, fun hi => (c hi).mono hl⟩⟩
theorem RelP.x {I : Im} {P : List Cell3} {Q : List Pl} (h : RelP I P Q) (o : Nat) : RelX I o P Q := ⟨h.1, fun i p q hp hq => let ⟨a, b, c⟩ := h.2 i p q hp hq; ⟨a, b, fun _ => c⟩⟩
theorem RelX.setO {I : Im} {o : Nat} {P : List Cell3} {Q : List Pl} (h : RelX I o P Q) (v : Value) (xs : List Int) : RelX I o (setTo P o v) (setToL Q o xs) := by
 refine ⟨by simp [setTo, setToL, h.1], fun j p q hp hq => ?_⟩
 unfold setTo at hp
 unfold setToL at hq
 rw [List.getElem?_modify] at hp hq
 by_cases e : o = j
 ·subst e
  simp only [if_true] at hp hq
  obtain ⟨p0, hp0, rfl⟩ := Option.map_eq_some_iff.1 hp
  obtain ⟨q0, hq0, rfl⟩ := Option.map_eq_some_iff.1 hq
  obtain ⟨a, b, _⟩ := h.2 o p0 q0 hp0 hq0
  exact ⟨a, b, fun hi => absurd rfl hi⟩
 ·simp only [e, if_false] at hp hq
  exact h.2 j p q (by simpa using hp) (by simpa using hq)
theorem RelX.setB {I : Im} {o : Nat} {P : List Cell3} {Q : List Pl} (h : RelX I o P Q) (b : Nat) (v : Value) (xs : List Int) (hv : IntsI I v xs) : RelX I o (setTo P b v) (setToL Q b xs) := by
 refine ⟨by simp [setTo, setToL, h.1], fun j p q hp hq => ?_⟩
 unfold setTo at hp
 unfold setToL at hq
 rw [List.getElem?_modify] at hp hq
 by_cases e : b = j
 ·subst e
  simp only [if_true] at hp hq
  obtain ⟨p0, hp0, rfl⟩ := Option.map_eq_some_iff.1 hp
  obtain ⟨q0, hq0, rfl⟩ := Option.map_eq_some_iff.1 hq
  obtain ⟨a, b, _⟩ := h.2 b p0 q0 hp0 hq0
  exact ⟨a, b, fun _ => hv⟩
 ·simp only [e, if_false] at hp hq
  exact h.2 j p q (by simpa using hp) (by simpa using hq)
theorem RelX.back {I : Im} {o : Nat} {P : List Cell3} {Q : List Pl} (h : RelX I o P Q) (hv : ∀ p q, P[o]? = some p → Q[o]? = some q → IntsI I p.2.2 q.2.2) : RelP I P Q :=
 ⟨h.1, fun i p q hp hq => by
  obtain ⟨a, b, c⟩ := h.2 i p q hp hq
  refine ⟨a, b, ?_⟩
  by_cases e : i = o
  ·subst e; exact hv p q hp hq
  ·exact c e⟩
def closeGo (n : Nat) (o : Nat) : List Pl → List Int → List Nat → List Pl
 | Q, _, [] => Q
 | Q, done, b :: r => closeGo n o (setToL (setToL Q o (done ++ [(b : Int) + 1])) b [(n : Int)]) (done ++ [(b : Int) + 1]) r
theorem closeGo_len (n o : Nat) : ∀ (r : List Nat) (Q : List Pl) (done : List Int), (closeGo n o Q done r).length = Q.length
 | [], _, _ => rfl
 | b :: r, Q, done => by rw [closeGo, closeGo_len n o r]; simp [setToL]
theorem freezeInts {B w : World} {I : Im} {As : List Assn} {k E : Nat} {v : Value} {xs : List Int} (hS : Sat B w I As) (hk : As[k]? = some (Vec E 1 v xs.length (xs.map I64))) (hn : xs = [] → v = .slice none 0 0) : ∃ J, Le I J ∧ IntsI J v xs ∧ Sat B w J (As.eraseIdx k) := by
 rcases Nat.eq_zero_or_pos xs.length with h0 | h0
 ·have hx : xs = [] := List.eq_nil_of_length_eq_zero h0
  subst hx
  obtain ⟨a, c, rfl, hc, _⟩ := hS.vecSlice hk
  exact ⟨I, Le.refl I, ⟨hn, a, c, rfl, hc, by simp, fun h => absurd h (by simp)⟩, hS.drop hk⟩
 ·obtain ⟨b, cap, r, rfl, h1, h2, _, _, hSo⟩ := hS.vecOpen hk h0
  have hlk : k < As.length := (List.getElem?_eq_some_iff.1 hk).1
  obtain ⟨J, hJ, hb, hS'⟩ := hSo.freeze (k := k) (b := b) (o := cellsO (xs.map I64 ++ r) E) (by simp [hlk, blk])
  refine ⟨J, hJ, ⟨hn, _, _, rfl, h1, by simp, fun _ => ⟨_, rfl, rfl, _, _, _, hb, ?_⟩⟩, by simpa [List.eraseIdx_set_eq] using hS'⟩
  intro j u hj
  have hjl : j < (xs.map I64).length := (List.getElem?_eq_some_iff.1 hj).1
  simp only [Nat.zero_add, List.getElem?_toArray]
  rw [List.getElem?_append_left hjl]
  exact hj
abbrev PFr := Nat × List Nat
def cmpGo : List UInt8 → Int → List Pl → List PFr → List Int → Except (Int × Int) (List Pl)
 | [], _, Q, _, ats => if 0 < ats.length then .error (23, ats.getD (ats.length - 1) 0) else .ok (Q ++ [(7, 0, [])])
 | c :: r, i, Q, stk, ats =>
  if c.toNat = 63 then cmpGo r (i + 1) (Q ++ [(1, 0, [])]) stk ats
  else if c.toNat = 42 then (match r with
   | d :: r' => if d.toNat = 42 then cmpGo r' (i + 2) (Q ++ [(2, 0, [])]) stk ats else cmpGo (d :: r') (i + 1) (Q ++ [(3, 0, [])]) stk ats
   | [] => cmpGo [] (i + 1) (Q ++ [(3, 0, [])]) stk ats)
  else if c.toNat = 40 then (if stk.length = 4 then .error (24, i) else cmpGo r (i + 1) (Q ++ [(4, 0, [])]) ((Q.length, []) :: stk) (ats ++ [i]))
  else if c.toNat = 124 then (match stk with
   | [] => .error (10, i)
   | (o, bs) :: rest => cmpGo r (i + 1) (Q ++ [(5, 0, [])]) ((o, bs ++ [Q.length]) :: rest) ats)
  else if c.toNat = 41 then (match stk with
   | [] => .error (10, i)
   | (o, bs) :: rest => cmpGo r (i + 1) (closeGo Q.length o Q [] bs ++ [(6, 0, [])]) rest (ats.take rest.length))
  else if c.toNat = 92 then (match r with | [] => .error (10, i) | d :: r' => cmpGo r' (i + 2) (Q ++ [(0, (d.toNat : Int), [])]) stk ats)
  else cmpGo r (i + 1) (Q ++ [(0, (c.toNat : Int), [])]) stk ats
theorem cmpGo_nil (i : Int) (Q : List Pl) (stk : List PFr) (ats : List Int) : cmpGo [] i Q stk ats = if 0 < ats.length then .error (23, ats.getD (ats.length - 1) 0) else .ok (Q ++ [(7, 0, [])]) := by rw [cmpGo.eq_def]
theorem cmpGo_cons (c : UInt8) (r : List UInt8) (i : Int) (Q : List Pl) (stk : List PFr) (ats : List Int) : cmpGo (c :: r) i Q stk ats =
  if c.toNat = 63 then cmpGo r (i + 1) (Q ++ [(1, 0, [])]) stk ats
  else if c.toNat = 42 then (match r with
   | d :: r' => if d.toNat = 42 then cmpGo r' (i + 2) (Q ++ [(2, 0, [])]) stk ats else cmpGo (d :: r') (i + 1) (Q ++ [(3, 0, [])]) stk ats
   | [] => cmpGo [] (i + 1) (Q ++ [(3, 0, [])]) stk ats)
  else if c.toNat = 40 then (if stk.length = 4 then .error (24, i) else cmpGo r (i + 1) (Q ++ [(4, 0, [])]) ((Q.length, []) :: stk) (ats ++ [i]))
  else if c.toNat = 124 then (match stk with
   | [] => .error (10, i)
   | (o, bs) :: rest => cmpGo r (i + 1) (Q ++ [(5, 0, [])]) ((o, bs ++ [Q.length]) :: rest) ats)
  else if c.toNat = 41 then (match stk with
   | [] => .error (10, i)
   | (o, bs) :: rest => cmpGo r (i + 1) (closeGo Q.length o Q [] bs ++ [(6, 0, [])]) rest (ats.take rest.length))
  else if c.toNat = 92 then (match r with | [] => .error (10, i) | d :: r' => cmpGo r' (i + 2) (Q ++ [(0, (d.toNat : Int), [])]) stk ats)
  else cmpGo r (i + 1) (Q ++ [(0, (c.toNat : Int), [])]) stk ats := by rw [cmpGo.eq_def]
def cmp (l : List UInt8) : Except (Int × Int) (List Pl) := if 200 < l.length then .error (2, 0) else cmpGo l 0 [] [] []
def Frames (Q : List Pl) : Nat → List PFr → Prop
 | _, [] => True
 | lim, (o, bs) :: r => o < lim ∧ Q[o]? = some (4, 0, []) ∧ bs.length ≤ Q.length ∧ (∀ b ∈ bs, o < b ∧ b < Q.length) ∧ Frames Q o r
theorem Frames.grow {Q Q' : List Pl} : ∀ {stk : List PFr} {lim lim' : Nat}, Frames Q lim stk → lim ≤ lim' → Q.length ≤ Q'.length → (∀ i, i < lim → Q[i]? = some (4, 0, []) → Q'[i]? = some (4, 0, [])) → Frames Q' lim' stk
 | [], _, _, _, _, _, _ => trivial
 | (o, bs) :: r, lim, lim', ⟨h1, h2, h3, h4, h5⟩, hl, hq, hk =>
  ⟨by omega, hk o h1 h2, by omega, fun b hb => ⟨(h4 b hb).1, by have := (h4 b hb).2; omega⟩, h5.grow (Nat.le_refl _) hq fun i hi => hk i (by omega)⟩
theorem Frames.app {Q : List Pl} {stk : List PFr} (h : Frames Q Q.length stk) (x : Pl) : Frames (Q ++ [x]) (Q ++ [x]).length stk :=
 h.grow (by simp) (by simp) fun i hi hq => by rw [List.getElem?_append_left hi]; exact hq
theorem closeGo_get (n o : Nat) : ∀ (bs : List Nat) (Q : List Pl) (done : List Int) (i : Nat), i ≠ o → (∀ b ∈ bs, b ≠ i) → (closeGo n o Q done bs)[i]? = Q[i]?
 | [], _, _, _, _, _ => rfl
 | b :: r, Q, done, i, h, hb => by
  rw [closeGo, closeGo_get n o r _ _ i h fun x hx => hb x (List.mem_cons_of_mem _ hx)]
  have hbi : b ≠ i := hb b (by simp)
  simp [setToL, List.getElem?_modify, hbi, Ne.symm h]
theorem Frames.close {Q : List Pl} {o : Nat} {bs : List Nat} {rest : List PFr} (h : Frames Q Q.length ((o, bs) :: rest)) (x : Pl) : Frames (closeGo Q.length o Q [] bs ++ [x]) (closeGo Q.length o Q [] bs ++ [x]).length rest := by
 obtain ⟨h1, h2, h3, h4, h5⟩ := h
 refine h5.grow (by simp [closeGo_len]; omega) (by simp [closeGo_len]) fun i hi hq => ?_
 rw [List.getElem?_append_left (by rw [closeGo_len]; omega), closeGo_get _ _ _ _ _ _ (by omega) fun b hb => by have := (h4 b hb).1; omega]
 exact hq
def mks (f : PFr) : List Int := (f.1 :: f.2).map fun (x : Nat) => (x : Int)
theorem stk_snoc {st : List (Value × List Int)} {f : PFr} {rest : List PFr} (h : st.map (·.2) = (f :: rest).reverse.map mks) : ∃ st0 mv, st = st0 ++ [(mv, mks f)] ∧ st0.map (·.2) = rest.reverse.map mks := by
 have hne : st ≠ [] := fun e => by subst e; simp at h
 have hs := List.dropLast_concat_getLast hne
 rw [← hs, List.reverse_cons, List.map_append, List.map_append] at h
 simp only [List.map_cons, List.map_nil] at h
 have h2 := List.append_inj' h rfl
 refine ⟨st.dropLast, (st.getLast hne).1, ?_, h2.1⟩
 have h3 : (st.getLast hne).2 = mks f := by simpa using h2.2
 rw [← h3]
 exact hs.symm
theorem Sat_sepNil {B w : World} {I : Im} {As : List Assn} (hS : Sat B w I As) : Sat B w I (SepAll [] :: As) := by
 obtain ⟨h, hs, hg⟩ := hS
 exact ⟨h, ⟨[], h, rfl, rfl, hs⟩, hg⟩
def PatI (I : Im) (p : Addr) (Q : List Pl) (n : Nat) : Prop := ∃ a c P, At I p [.slice a P.length c, I64 n] ∧ P.length ≤ c ∧ RS I a 3 P.length (P.flatMap enc) ∧ RelP I P Q
theorem PatI.mono {I J : Im} {p : Addr} {Q : List Pl} {n : Nat} (h : PatI I p Q n) (hl : Le I J) : PatI J p Q n := let ⟨a, c, P, h1, h2, h3, h4⟩ := h; ⟨a, c, P, h1.mono hl, h2, h3.mono hl, h4.mono hl⟩
theorem RelP.nil_of {I : Im} {P : List Cell3} {Q : List Pl} (h : RelP I P Q) {o : Nat} {k c : Int} (hq : Q[o]? = some (k, c, [])) : P[o]? = some (k, c, .slice none 0 0) := by
 have hlt : o < Q.length := (List.getElem?_eq_some_iff.1 hq).1
 obtain ⟨⟨p1, p2, p3⟩, hp⟩ : ∃ p, P[o]? = some p := ⟨_, List.getElem?_eq_getElem (by rw [h.1]; exact hlt)⟩
 obtain ⟨a, b, h0, _⟩ := h.2 o _ _ hp hq
 have h1 := h0 rfl
 simp only at a b h1
 subst a; subst b; subst h1
 exact hp
end Pat
namespace Pat
set_option linter.unusedVariables false
set_option linter.unusedSimpArgs false
open Gk
def iter {β : Type} (f : β → Nat → β) (b : β) : Nat → β
 | 0 => b
 | k + 1 => f (iter f b k) k
def hasPre (s p : List UInt8) : Bool := decide ((p.length : Int) ≤ (s.length : Int)) && (s.take (p.length : Int).toNat == p)
def chkGo : List UInt8 → Int → List Int → Int × Int
 | [], _, o => if 0 < o.length then (23, o.getD (o.length - 1) 0) else (0, 0)
 | c :: r, i, o =>
  if c.toNat = 40 then (if o.length = 4 then (24, i) else chkGo r (i + 1) (o ++ [i]))
  else if c.toNat = 41 then (if o.length = 0 then (10, i) else chkGo r (i + 1) (o.take (o.length - 1)))
  else if c.toNat = 124 then (if o.length = 0 then (10, i) else chkGo r (i + 1) o)
  else if c.toNat = 92 then (match r with | [] => (10, i) | _ :: r' => chkGo r' (i + 2) o)
  else chkGo r (i + 1) o
theorem chkGo_nil (i : Int) (o : List Int) : chkGo [] i o = if 0 < o.length then (23, o.getD (o.length - 1) 0) else (0, 0) := by rw [chkGo.eq_def]
theorem chkGo_cons (c : UInt8) (r : List UInt8) (i : Int) (o : List Int) : chkGo (c :: r) i o = if c.toNat = 40 then (if o.length = 4 then (24, i) else chkGo r (i + 1) (o ++ [i]))
  else if c.toNat = 41 then (if o.length = 0 then (10, i) else chkGo r (i + 1) (o.take (o.length - 1)))
  else if c.toNat = 124 then (if o.length = 0 then (10, i) else chkGo r (i + 1) o)
  else if c.toNat = 92 then (match r with | [] => (10, i) | _ :: r' => chkGo r' (i + 2) o)
  else chkGo r (i + 1) o := by rw [chkGo.eq_def]
def chk (l : List UInt8) : Int × Int := if 200 < l.length then (2, 0) else chkGo l 0 []
end Pat
namespace Go.Proofs.YtadhiihnnkcagaaGreatDoor
open Gk Pat
set_option linter.unusedVariables false
set_option linter.unusedSimpArgs false
def rowsA (E : Nat) (st : List (Value × List Int)) : Assn := SepAll (st.map fun x => Vec E 1 x.1 x.2.length (x.2.map I64))
theorem marks_get {o b : Nat} {bs pre r : List Nat} (h : bs = pre ++ b :: r) (rm : List Value) : (((o :: bs).map fun (x : Nat) => (x : Int)).map I64 ++ rm)[1 + (pre.length : Int).toNat * 1]? = some (I64 b) := by
 subst h
 rw [Int.toNat_natCast, Nat.mul_one, List.getElem?_append_left (by simp; omega)]
 simp [Nat.add_comm 1]
theorem info3_196 : Tryz.prog.info? 3 = some Tryz.t3 := by kernel_rfl
theorem info195_196 : Tryz.prog.info? 195 = some Tryz.t195 := by kernel_rfl
theorem info224_196 : Tryz.prog.info? 224 = some Tryz.t224 := by kernel_rfl
theorem bld224_196 : Bld Tryz.prog 224 [(0, 1), (1, 1), (2, 1)] [.int .u8 0, .int .u8 0, .slice none 0 0] := bld_of Tryz.underlying224 Tryz.zeroValue224 (fun w => by simp [go_sem])
theorem put_any (bc n : Nat) (lv sv av : Value) (xs : List Value) (kd b : Int) (B w : World) (I : Im) (F : List Assn) (hS : Sat B w I (blk bc [lv, sv, av] 248 :: Vec 224 3 lv n xs :: F)) (hn : n ≤ 1000) :
  Calls Tryz.prog 196 [ptr bc 0, .int .u8 kd, .int .u8 b].toArray w (Ret fun v w' => v = .tuple #[] ∧ ∃ lv', Sat B w' I (blk bc [lv', sv, av] 248 :: Vec 224 3 lv' (n + 1) (xs ++ [.int .u8 kd, .int .u8 b, .slice none 0 0]) :: F)) := by
 refine calls Tryz.func196 rfl Tryz.ntmps196 rfl (.region (.run 3 rfl trivial (.val (.fieldAddr 0 (.of rfl) Tryz.underlying248 rfl rfl Tryz.sizeOf219 rfl) rfl (.val (.ld (.of rfl) hS (k := 0) rfl Tryz.isAgg219 rfl) rfl (.run 2 rfl trivial (.val (.build (cs := [_, _, _]) (parts_cons (.of rfl) (parts_cons (.of rfl) parts_nil)) bld224_196 rfl) rfl (.buildSlice (cs := [_, _, _]) hS (parts_cons (.of rfl) parts_nil) Tryz.underlying219 Tryz.sizeOf224 Tryz.zeroValue224 rfl rfl rfl rfl ?_)))))))
 clear hS; intro b14 w hS
 refine WL.append (size := 3) (bytes := 32) hS (.of rfl) (.of rfl) (k := 1) rfl Tryz.underlying219 info224_196 rfl rfl rfl rfl rfl rfl rfl ⟨by omega, by unfold maxLen; omega⟩ rfl ?_
 clear hS; intro v15 w hS; try dsimp only [List.set] at hS
 obtain ⟨a15, c15, rfl, hcap15, _⟩ := hS.vecSlice (k := 1) (v := v15) rfl
 refine .run 1 rfl trivial (.val (.fieldAddr 0 (.of rfl) Tryz.underlying248 rfl rfl Tryz.sizeOf219 rfl) rfl (.st1 hS (k := 0) rfl (.of rfl) (.of rfl) rfl Tryz.sizeOf219 (by simp) ?_))
 clear hS; intro w hS; try dsimp only [List.set] at hS
 refine .nil (end0 Tryz.results196 ?_)
 exact ⟨_, rfl, rfl, _, hS⟩
theorem bracket_any (bc n : Nat) (lv sv av : Value) (xs : List Value) (st : List (Value × List Int)) (ats : List Int) (at_ : Int) (B w : World) (I : Im) (F : List Assn) (hS : Sat B w I (blk bc [lv, sv, av] 248 :: Vec 224 3 lv n xs :: Vec 195 1 sv st.length (st.map (·.1)) :: Vec 3 1 av ats.length (ats.map I64) :: rowsA 3 st :: F)) (hn : n ≤ 1000) (hd : st.length ≤ 1000) (hd2 : ats.length ≤ 1000) :
  Calls Tryz.prog 197 [ptr bc 0, I64 at_].toArray w (Ret fun v w' => v = .tuple #[] ∧ ∃ lv' sv' av' mv, Sat B w' I (blk bc [lv', sv', av'] 248 :: Vec 224 3 lv' (n + 1) (xs ++ [.int .u8 4, .int .u8 0, .slice none 0 0]) :: Vec 195 1 sv' (st.length + 1) (st.map (·.1) ++ [mv]) :: Vec 3 1 av' (ats.length + 1) (ats.map I64 ++ [I64 at_]) :: rowsA 3 (st ++ [(mv, [(n : Int)])]) :: F)) := by
 refine calls Tryz.func197 rfl Tryz.ntmps197 rfl (.seq ?_)
 obtain ⟨la, lc, rfl, hlc, _⟩ := hS.vecSlice (k := 1) rfl
 obtain ⟨sa, sc, rfl, hsc, _⟩ := hS.vecSlice (k := 2) rfl
 obtain ⟨aa, ac, rfl, hac, _⟩ := hS.vecSlice (k := 3) rfl
 refine .drawn (fun w => ∃ R, Sat B w I (blk bc [.slice la n lc, .slice sa st.length sc, .slice aa ats.length ac] 248 :: R)) (fun j => !([23, 26].contains j)) (by kernel_rfl) ?_
 replace hS := hS.drew; generalize w.drew = w at hS ⊢
 have hH : ∃ R, Sat B w I (blk bc [.slice la n lc, .slice sa st.length sc, .slice aa ats.length ac] 248 :: R) := ⟨_, (hS.pick 0 rfl)⟩
 refine .takeP (i := 0) rfl (by kernel_rfl) (by kernel_rfl) (by kernel_rfl) (fun w => (.move (.of rfl))) rfl (.takeP (i := 1) rfl (by kernel_rfl) (by kernel_rfl) (by kernel_rfl) (fun w => (.move (.of rfl))) rfl (.takeP (i := 2) rfl (by kernel_rfl) (by kernel_rfl) (by kernel_rfl) (fun w => (.move (.of rfl))) rfl (.takeP (i := 3) rfl (by kernel_rfl) (by kernel_rfl) (by kernel_rfl) (fun w => (.nilCheck (.of rfl))) rfl (.takeP (i := 4) rfl (by kernel_rfl) (by kernel_rfl) (by kernel_rfl) (fun w => (.fieldAddr 1 (.of rfl) Tryz.underlying248 rfl rfl Tryz.sizeOf243 rfl)) rfl (.take (i := 5) rfl (by kernel_rfl) (by kernel_rfl) (by kernel_rfl) (by kernel_rfl) hH (fun w ⟨R, hS⟩ => (.ld (.of rfl) hS (k := 0) rfl Tryz.isAgg243 rfl)) rfl (.takeP (i := 6) rfl (by kernel_rfl) (by kernel_rfl) (by kernel_rfl) (fun w => (.move (.of rfl))) rfl (.takeP (i := 7) rfl (by kernel_rfl) (by kernel_rfl) (by kernel_rfl) (fun w => (.nilCheck (.of rfl))) rfl (.takeP (i := 8) rfl (by kernel_rfl) (by kernel_rfl) (by kernel_rfl) (fun w => (.fieldAddr 0 (.of rfl) Tryz.underlying248 rfl rfl Tryz.sizeOf219 rfl)) rfl (.take (i := 9) rfl (by kernel_rfl) (by kernel_rfl) (by kernel_rfl) (by kernel_rfl) hH (fun w ⟨R, hS⟩ => (.ld (.of rfl) hS (k := 0) rfl Tryz.isAgg219 rfl)) rfl (.takeP (i := 10) rfl (by kernel_rfl) (by kernel_rfl) (by kernel_rfl) (fun w => (.lenSlice (.of rfl) Tryz.underlying219)) rfl (.takeP (i := 14) rfl (by kernel_rfl) (by kernel_rfl) (by kernel_rfl) (fun w => (.move (.of rfl))) rfl (.takeP (i := 15) rfl (by kernel_rfl) (by kernel_rfl) (by kernel_rfl) (fun w => (.nilCheck (.of rfl))) rfl (.takeP (i := 16) rfl (by kernel_rfl) (by kernel_rfl) (by kernel_rfl) (fun w => (.fieldAddr 2 (.of rfl) Tryz.underlying248 rfl rfl Tryz.sizeOf195 rfl)) rfl (.take (i := 17) rfl (by kernel_rfl) (by kernel_rfl) (by kernel_rfl) (by kernel_rfl) hH (fun w ⟨R, hS⟩ => (.ld (.of rfl) hS (k := 0) rfl Tryz.isAgg195 rfl)) rfl (.takeP (i := 18) rfl (by kernel_rfl) (by kernel_rfl) (by kernel_rfl) (fun w => (.move (.of rfl))) rfl ?_)))))))))))))))
 refine WD.branch [11, 19] (by kernel_rfl) rfl (WO.cons rfl ?_ (WO.cons rfl ?_ (WO.nil)))
 ·
  refine .buildSlice (cs := [_]) hS (parts_cons (.of rfl) parts_nil) Tryz.underlying195 Tryz.sizeOf3 Tryz.zeroValue3 rfl rfl rfl rfl ?_
  clear hS; intro b15 w hS
  refine .nil ?_
  clear hH
  have hH : ∃ R, Sat B w I (blk bc [.slice la n lc, .slice sa st.length sc, .slice aa ats.length ac] 248 :: R) := ⟨_, (hS.pick 1 rfl)⟩
  refine And.intro (by intro _ _; exact hH) ?_
  refine WD.branch [12, 19] (by kernel_rfl) rfl (WO.cons rfl ?_ (WO.cons rfl ?_ (WO.nil)))
  ·
   refine .buildSlice (cs := [_]) hS (parts_cons (.of rfl) parts_nil) Tryz.underlying243 Tryz.sizeOf195 Tryz.zeroValue195 rfl rfl rfl rfl ?_
   clear hS; intro b16 w hS
   refine .nil ?_
   clear hH
   have hH : ∃ R, Sat B w I (blk bc [.slice la n lc, .slice sa st.length sc, .slice aa ats.length ac] 248 :: R) := ⟨_, (hS.pick 2 rfl)⟩
   refine And.intro (by intro _ _; exact hH) ?_
   refine WD.branch [13, 19] (by kernel_rfl) rfl (WO.cons rfl ?_ (WO.cons rfl ?_ (WO.nil)))
   ·
    refine WL.append (size := 1) (bytes := 24) hS (.of rfl) (.of rfl) (k := 3) rfl Tryz.underlying243 info195_196 rfl rfl rfl rfl rfl rfl rfl ⟨by omega, by unfold maxLen; omega⟩ rfl ?_
    clear hS; intro v17 w hS; try dsimp only [List.set] at hS
    obtain ⟨a17, c17, rfl, hcap17, _⟩ := hS.vecSlice (k := 3) (v := v17) rfl
    refine .nil ?_
    clear hH
    have hH : ∃ R, Sat B w I (blk bc [.slice la n lc, .slice sa st.length sc, .slice aa ats.length ac] 248 :: R) := ⟨_, (hS.pick 1 rfl)⟩
    refine And.intro (by intro _ _; exact hH) ?_
    refine WD.branch [19] (by kernel_rfl) rfl (WO.cons rfl ?_ (WO.nil))
    refine .buildSlice (cs := [_]) hS (parts_cons (.of rfl) parts_nil) Tryz.underlying195 Tryz.sizeOf3 Tryz.zeroValue3 rfl rfl rfl rfl ?_
    clear hS; intro b23 w hS
    refine .nil ?_
    clear hH
    have hH : ∃ R, Sat B w I (blk bc [.slice la n lc, .slice sa st.length sc, .slice aa ats.length ac] 248 :: R) := ⟨_, (hS.pick 2 rfl)⟩
    refine And.intro (by intro _ _; exact hH) ?_
    refine WD.branch [20] (by kernel_rfl) rfl (WO.cons rfl ?_ (WO.nil))
    refine WL.append (size := 1) (bytes := 8) hS (.of rfl) (.of rfl) (k := 4) rfl Tryz.underlying195 info3_196 rfl rfl rfl rfl rfl rfl rfl ⟨by omega, by unfold maxLen; omega⟩ rfl ?_
    clear hS; intro v24 w hS; try dsimp only [List.set] at hS
    obtain ⟨a24, c24, rfl, hcap24, _⟩ := hS.vecSlice (k := 4) (v := v24) rfl
    refine .nil ?_
    clear hH
    have hH : ∃ R, Sat B w I (blk bc [.slice la n lc, .slice sa st.length sc, .slice aa ats.length ac] 248 :: R) := ⟨_, (hS.pick 1 rfl)⟩
    refine And.intro (by intro _ _; exact hH) ?_
    refine .takeP (i := 21) rfl (by kernel_rfl) (by kernel_rfl) (by kernel_rfl) (fun w => (.nilCheck (.of rfl))) rfl (.takeP (i := 22) rfl (by kernel_rfl) (by kernel_rfl) (by kernel_rfl) (fun w => (.fieldAddr 1 (.of rfl) Tryz.underlying248 rfl rfl Tryz.sizeOf243 rfl)) rfl ?_)
    refine WD.branch [23] (by kernel_rfl) rfl (WO.cons rfl ?_ (WO.nil))
    refine .st1 hS (k := 1) rfl (.of rfl) (.of rfl) rfl Tryz.sizeOf243 (by simp) ?_
    clear hS; intro w hS; try dsimp only [List.set] at hS
    refine .nil ?_
    refine And.intro (by intro h; cases h) ?_
    refine .takeP (i := 24) rfl (by kernel_rfl) (by kernel_rfl) (by kernel_rfl) (fun w => (.nilCheck (.of rfl))) rfl (.takeP (i := 25) rfl (by kernel_rfl) (by kernel_rfl) (by kernel_rfl) (fun w => (.fieldAddr 2 (.of rfl) Tryz.underlying248 rfl rfl Tryz.sizeOf195 rfl)) rfl ?_)
    refine WD.branch [26] (by kernel_rfl) rfl (WO.cons rfl ?_ (WO.nil))
    refine .st1 hS (k := 1) rfl (.of rfl) (.of rfl) rfl Tryz.sizeOf195 (by simp) ?_
    clear hS; intro w hS; try dsimp only [List.set] at hS
    refine .nil ?_
    refine And.intro (by intro h; cases h) ?_
    refine .done (by kernel_rfl) (.region (.run 1 rfl trivial ?_))
    replace hS := hS.vecOf (k := 0) (E := 3) (size := 1) (n := 1) rfl rfl (by unfold maxLen; omega); try dsimp only [List.set] at hS
    replace hS := hS.push (k := 4) rfl; try dsimp only [List.set] at hS
    refine .call Tryz.func196 rfl (evs_cons (.of rfl) (evs_cons (.of rfl) (evs_cons (.of rfl) evs_nil))) rfl (put_any _ _ _ _ _ _ _ _ _ _ _ _ hS (by omega)) ?_
    clear hS
    rintro _ w ⟨rfl, lv, hS⟩
    refine .nil (end0 Tryz.results197 ?_)
    replace hS := hS.say (k := 4) (A' := rowsA 3 (st ++ [(.slice (some (ad b15 0)) 1 1, [(n : Int)])])) rfl (fun h hh => by rw [rowsA, List.map_append]; exact hh); try dsimp only [List.set] at hS
    exact ⟨_, rfl, rfl, _, _, _, _, hS⟩
   ·
    refine .buildSlice (cs := [_]) hS (parts_cons (.of rfl) parts_nil) Tryz.underlying195 Tryz.sizeOf3 Tryz.zeroValue3 rfl rfl rfl rfl ?_
    clear hS; intro b23 w hS
    refine .nil ?_
    clear hH
    have hH : ∃ R, Sat B w I (blk bc [.slice la n lc, .slice sa st.length sc, .slice aa ats.length ac] 248 :: R) := ⟨_, (hS.pick 3 rfl)⟩
    refine And.intro (by intro _ _; exact hH) ?_
    refine WD.branch [13] (by kernel_rfl) rfl (WO.cons rfl ?_ (WO.nil))
    replace hS := hS.pick 1 rfl; try dsimp only [List.eraseIdx] at hS
    refine WL.append (size := 1) (bytes := 24) hS (.of rfl) (.of rfl) (k := 4) rfl Tryz.underlying243 info195_196 rfl rfl rfl rfl rfl rfl rfl ⟨by omega, by unfold maxLen; omega⟩ rfl ?_
    clear hS; intro v17 w hS; try dsimp only [List.set] at hS
    obtain ⟨a17, c17, rfl, hcap17, _⟩ := hS.vecSlice (k := 4) (v := v17) rfl
    refine .nil ?_
    clear hH
    have hH : ∃ R, Sat B w I (blk bc [.slice la n lc, .slice sa st.length sc, .slice aa ats.length ac] 248 :: R) := ⟨_, (hS.pick 2 rfl)⟩
    refine And.intro (by intro _ _; exact hH) ?_
    refine WD.branch [20] (by kernel_rfl) rfl (WO.cons rfl ?_ (WO.nil))
    refine WL.append (size := 1) (bytes := 8) hS (.of rfl) (.of rfl) (k := 4) rfl Tryz.underlying195 info3_196 rfl rfl rfl rfl rfl rfl rfl ⟨by omega, by unfold maxLen; omega⟩ rfl ?_
    clear hS; intro v24 w hS; try dsimp only [List.set] at hS
    obtain ⟨a24, c24, rfl, hcap24, _⟩ := hS.vecSlice (k := 4) (v := v24) rfl
    refine .nil ?_
    clear hH
    have hH : ∃ R, Sat B w I (blk bc [.slice la n lc, .slice sa st.length sc, .slice aa ats.length ac] 248 :: R) := ⟨_, (hS.pick 1 rfl)⟩
    refine And.intro (by intro _ _; exact hH) ?_
    refine .takeP (i := 21) rfl (by kernel_rfl) (by kernel_rfl) (by kernel_rfl) (fun w => (.nilCheck (.of rfl))) rfl (.takeP (i := 22) rfl (by kernel_rfl) (by kernel_rfl) (by kernel_rfl) (fun w => (.fieldAddr 1 (.of rfl) Tryz.underlying248 rfl rfl Tryz.sizeOf243 rfl)) rfl ?_)
    refine WD.branch [23] (by kernel_rfl) rfl (WO.cons rfl ?_ (WO.nil))
    refine .st1 hS (k := 1) rfl (.of rfl) (.of rfl) rfl Tryz.sizeOf243 (by simp) ?_
    clear hS; intro w hS; try dsimp only [List.set] at hS
    refine .nil ?_
    refine And.intro (by intro h; cases h) ?_
    refine .takeP (i := 24) rfl (by kernel_rfl) (by kernel_rfl) (by kernel_rfl) (fun w => (.nilCheck (.of rfl))) rfl (.takeP (i := 25) rfl (by kernel_rfl) (by kernel_rfl) (by kernel_rfl) (fun w => (.fieldAddr 2 (.of rfl) Tryz.underlying248 rfl rfl Tryz.sizeOf195 rfl)) rfl ?_)
    refine WD.branch [26] (by kernel_rfl) rfl (WO.cons rfl ?_ (WO.nil))
    refine .st1 hS (k := 1) rfl (.of rfl) (.of rfl) rfl Tryz.sizeOf195 (by simp) ?_
    clear hS; intro w hS; try dsimp only [List.set] at hS
    refine .nil ?_
    refine And.intro (by intro h; cases h) ?_
    refine .done (by kernel_rfl) (.region (.run 1 rfl trivial ?_))
    replace hS := hS.vecOf (k := 0) (E := 3) (size := 1) (n := 1) rfl rfl (by unfold maxLen; omega); try dsimp only [List.set] at hS
    replace hS := hS.push (k := 4) rfl; try dsimp only [List.set] at hS
    refine .call Tryz.func196 rfl (evs_cons (.of rfl) (evs_cons (.of rfl) (evs_cons (.of rfl) evs_nil))) rfl (put_any _ _ _ _ _ _ _ _ _ _ _ _ hS (by omega)) ?_
    clear hS
    rintro _ w ⟨rfl, lv, hS⟩
    refine .nil (end0 Tryz.results197 ?_)
    replace hS := hS.say (k := 4) (A' := rowsA 3 (st ++ [(.slice (some (ad b15 0)) 1 1, [(n : Int)])])) rfl (fun h hh => by rw [rowsA, List.map_append]; exact hh); try dsimp only [List.set] at hS
    exact ⟨_, rfl, rfl, _, _, _, _, hS⟩
  ·
   refine .buildSlice (cs := [_]) hS (parts_cons (.of rfl) parts_nil) Tryz.underlying195 Tryz.sizeOf3 Tryz.zeroValue3 rfl rfl rfl rfl ?_
   clear hS; intro b23 w hS
   refine .nil ?_
   clear hH
   have hH : ∃ R, Sat B w I (blk bc [.slice la n lc, .slice sa st.length sc, .slice aa ats.length ac] 248 :: R) := ⟨_, (hS.pick 2 rfl)⟩
   refine And.intro (by intro _ _; exact hH) ?_
   refine WD.branch [12] (by kernel_rfl) rfl (WO.cons rfl ?_ (WO.nil))
   refine .buildSlice (cs := [_]) hS (parts_cons (.of rfl) parts_nil) Tryz.underlying243 Tryz.sizeOf195 Tryz.zeroValue195 rfl rfl rfl rfl ?_
   clear hS; intro b16 w hS
   refine .nil ?_
   clear hH
   have hH : ∃ R, Sat B w I (blk bc [.slice la n lc, .slice sa st.length sc, .slice aa ats.length ac] 248 :: R) := ⟨_, (hS.pick 3 rfl)⟩
   refine And.intro (by intro _ _; exact hH) ?_
   refine WD.branch [13] (by kernel_rfl) rfl (WO.cons rfl ?_ (WO.nil))
   refine WL.append (size := 1) (bytes := 24) hS (.of rfl) (.of rfl) (k := 4) rfl Tryz.underlying243 info195_196 rfl rfl rfl rfl rfl rfl rfl ⟨by omega, by unfold maxLen; omega⟩ rfl ?_
   clear hS; intro v17 w hS; try dsimp only [List.set] at hS
   obtain ⟨a17, c17, rfl, hcap17, _⟩ := hS.vecSlice (k := 4) (v := v17) rfl
   refine .nil ?_
   clear hH
   have hH : ∃ R, Sat B w I (blk bc [.slice la n lc, .slice sa st.length sc, .slice aa ats.length ac] 248 :: R) := ⟨_, (hS.pick 2 rfl)⟩
   refine And.intro (by intro _ _; exact hH) ?_
   refine WD.branch [20] (by kernel_rfl) rfl (WO.cons rfl ?_ (WO.nil))
   refine WL.append (size := 1) (bytes := 8) hS (.of rfl) (.of rfl) (k := 4) rfl Tryz.underlying195 info3_196 rfl rfl rfl rfl rfl rfl rfl ⟨by omega, by unfold maxLen; omega⟩ rfl ?_
   clear hS; intro v24 w hS; try dsimp only [List.set] at hS
   obtain ⟨a24, c24, rfl, hcap24, _⟩ := hS.vecSlice (k := 4) (v := v24) rfl
   refine .nil ?_
   clear hH
   have hH : ∃ R, Sat B w I (blk bc [.slice la n lc, .slice sa st.length sc, .slice aa ats.length ac] 248 :: R) := ⟨_, (hS.pick 1 rfl)⟩
   refine And.intro (by intro _ _; exact hH) ?_
   refine .takeP (i := 21) rfl (by kernel_rfl) (by kernel_rfl) (by kernel_rfl) (fun w => (.nilCheck (.of rfl))) rfl (.takeP (i := 22) rfl (by kernel_rfl) (by kernel_rfl) (by kernel_rfl) (fun w => (.fieldAddr 1 (.of rfl) Tryz.underlying248 rfl rfl Tryz.sizeOf243 rfl)) rfl ?_)
   refine WD.branch [23] (by kernel_rfl) rfl (WO.cons rfl ?_ (WO.nil))
   refine .st1 hS (k := 1) rfl (.of rfl) (.of rfl) rfl Tryz.sizeOf243 (by simp) ?_
   clear hS; intro w hS; try dsimp only [List.set] at hS
   refine .nil ?_
   refine And.intro (by intro h; cases h) ?_
   refine .takeP (i := 24) rfl (by kernel_rfl) (by kernel_rfl) (by kernel_rfl) (fun w => (.nilCheck (.of rfl))) rfl (.takeP (i := 25) rfl (by kernel_rfl) (by kernel_rfl) (by kernel_rfl) (fun w => (.fieldAddr 2 (.of rfl) Tryz.underlying248 rfl rfl Tryz.sizeOf195 rfl)) rfl ?_)
   refine WD.branch [26] (by kernel_rfl) rfl (WO.cons rfl ?_ (WO.nil))
   refine .st1 hS (k := 1) rfl (.of rfl) (.of rfl) rfl Tryz.sizeOf195 (by simp) ?_
   clear hS; intro w hS; try dsimp only [List.set] at hS
   refine .nil ?_
   refine And.intro (by intro h; cases h) ?_
   refine .done (by kernel_rfl) (.region (.run 1 rfl trivial ?_))
   replace hS := hS.vecOf (k := 0) (E := 3) (size := 1) (n := 1) rfl rfl (by unfold maxLen; omega); try dsimp only [List.set] at hS
   replace hS := hS.push (k := 4) rfl; try dsimp only [List.set] at hS
   refine .call Tryz.func196 rfl (evs_cons (.of rfl) (evs_cons (.of rfl) (evs_cons (.of rfl) evs_nil))) rfl (put_any _ _ _ _ _ _ _ _ _ _ _ _ hS (by omega)) ?_
   clear hS
   rintro _ w ⟨rfl, lv, hS⟩
   refine .nil (end0 Tryz.results197 ?_)
   replace hS := hS.say (k := 4) (A' := rowsA 3 (st ++ [(.slice (some (ad b15 0)) 1 1, [(n : Int)])])) rfl (fun h hh => by rw [rowsA, List.map_append]; exact hh); try dsimp only [List.set] at hS
   exact ⟨_, rfl, rfl, _, _, _, _, hS⟩
 ·
  refine .buildSlice (cs := [_]) hS (parts_cons (.of rfl) parts_nil) Tryz.underlying195 Tryz.sizeOf3 Tryz.zeroValue3 rfl rfl rfl rfl ?_
  clear hS; intro b23 w hS
  refine .nil ?_
  clear hH
  have hH : ∃ R, Sat B w I (blk bc [.slice la n lc, .slice sa st.length sc, .slice aa ats.length ac] 248 :: R) := ⟨_, (hS.pick 1 rfl)⟩
  refine And.intro (by intro _ _; exact hH) ?_
  refine WD.branch [11] (by kernel_rfl) rfl (WO.cons rfl ?_ (WO.nil))
  refine .buildSlice (cs := [_]) hS (parts_cons (.of rfl) parts_nil) Tryz.underlying195 Tryz.sizeOf3 Tryz.zeroValue3 rfl rfl rfl rfl ?_
  clear hS; intro b15 w hS
  refine .nil ?_
  clear hH
  have hH : ∃ R, Sat B w I (blk bc [.slice la n lc, .slice sa st.length sc, .slice aa ats.length ac] 248 :: R) := ⟨_, (hS.pick 2 rfl)⟩
  refine And.intro (by intro _ _; exact hH) ?_
  refine WD.branch [12] (by kernel_rfl) rfl (WO.cons rfl ?_ (WO.nil))
  refine .buildSlice (cs := [_]) hS (parts_cons (.of rfl) parts_nil) Tryz.underlying243 Tryz.sizeOf195 Tryz.zeroValue195 rfl rfl rfl rfl ?_
  clear hS; intro b16 w hS
  refine .nil ?_
  clear hH
  have hH : ∃ R, Sat B w I (blk bc [.slice la n lc, .slice sa st.length sc, .slice aa ats.length ac] 248 :: R) := ⟨_, (hS.pick 3 rfl)⟩
  refine And.intro (by intro _ _; exact hH) ?_
  refine WD.branch [13] (by kernel_rfl) rfl (WO.cons rfl ?_ (WO.nil))
  refine WL.append (size := 1) (bytes := 24) hS (.of rfl) (.of rfl) (k := 4) rfl Tryz.underlying243 info195_196 rfl rfl rfl rfl rfl rfl rfl ⟨by omega, by unfold maxLen; omega⟩ rfl ?_
  clear hS; intro v17 w hS; try dsimp only [List.set] at hS
  obtain ⟨a17, c17, rfl, hcap17, _⟩ := hS.vecSlice (k := 4) (v := v17) rfl
  refine .nil ?_
  clear hH
  have hH : ∃ R, Sat B w I (blk bc [.slice la n lc, .slice sa st.length sc, .slice aa ats.length ac] 248 :: R) := ⟨_, (hS.pick 2 rfl)⟩
  refine And.intro (by intro _ _; exact hH) ?_
  refine WD.branch [20] (by kernel_rfl) rfl (WO.cons rfl ?_ (WO.nil))
  replace hS := hS.pick 1 rfl; try dsimp only [List.eraseIdx] at hS
  refine WL.append (size := 1) (bytes := 8) hS (.of rfl) (.of rfl) (k := 4) rfl Tryz.underlying195 info3_196 rfl rfl rfl rfl rfl rfl rfl ⟨by omega, by unfold maxLen; omega⟩ rfl ?_
  clear hS; intro v24 w hS; try dsimp only [List.set] at hS
  obtain ⟨a24, c24, rfl, hcap24, _⟩ := hS.vecSlice (k := 4) (v := v24) rfl
  refine .nil ?_
  clear hH
  have hH : ∃ R, Sat B w I (blk bc [.slice la n lc, .slice sa st.length sc, .slice aa ats.length ac] 248 :: R) := ⟨_, (hS.pick 1 rfl)⟩
  refine And.intro (by intro _ _; exact hH) ?_
  refine .takeP (i := 21) rfl (by kernel_rfl) (by kernel_rfl) (by kernel_rfl) (fun w => (.nilCheck (.of rfl))) rfl (.takeP (i := 22) rfl (by kernel_rfl) (by kernel_rfl) (by kernel_rfl) (fun w => (.fieldAddr 1 (.of rfl) Tryz.underlying248 rfl rfl Tryz.sizeOf243 rfl)) rfl ?_)
  refine WD.branch [23] (by kernel_rfl) rfl (WO.cons rfl ?_ (WO.nil))
  refine .st1 hS (k := 1) rfl (.of rfl) (.of rfl) rfl Tryz.sizeOf243 (by simp) ?_
  clear hS; intro w hS; try dsimp only [List.set] at hS
  refine .nil ?_
  refine And.intro (by intro h; cases h) ?_
  refine .takeP (i := 24) rfl (by kernel_rfl) (by kernel_rfl) (by kernel_rfl) (fun w => (.nilCheck (.of rfl))) rfl (.takeP (i := 25) rfl (by kernel_rfl) (by kernel_rfl) (by kernel_rfl) (fun w => (.fieldAddr 2 (.of rfl) Tryz.underlying248 rfl rfl Tryz.sizeOf195 rfl)) rfl ?_)
  refine WD.branch [26] (by kernel_rfl) rfl (WO.cons rfl ?_ (WO.nil))
  refine .st1 hS (k := 1) rfl (.of rfl) (.of rfl) rfl Tryz.sizeOf195 (by simp) ?_
  clear hS; intro w hS; try dsimp only [List.set] at hS
  refine .nil ?_
  refine And.intro (by intro h; cases h) ?_
  refine .done (by kernel_rfl) (.region (.run 1 rfl trivial ?_))
  replace hS := hS.vecOf (k := 0) (E := 3) (size := 1) (n := 1) rfl rfl (by unfold maxLen; omega); try dsimp only [List.set] at hS
  replace hS := hS.push (k := 4) rfl; try dsimp only [List.set] at hS
  refine .call Tryz.func196 rfl (evs_cons (.of rfl) (evs_cons (.of rfl) (evs_cons (.of rfl) evs_nil))) rfl (put_any _ _ _ _ _ _ _ _ _ _ _ _ hS (by omega)) ?_
  clear hS
  rintro _ w ⟨rfl, lv, hS⟩
  refine .nil (end0 Tryz.results197 ?_)
  replace hS := hS.say (k := 4) (A' := rowsA 3 (st ++ [(.slice (some (ad b15 0)) 1 1, [(n : Int)])])) rfl (fun h hh => by rw [rowsA, List.map_append]; exact hh); try dsimp only [List.set] at hS
  exact ⟨_, rfl, rfl, _, _, _, _, hS⟩
theorem close_any (bc : Nat) (lv sv av mv : Value) (P0 : List Cell3) (Q0 : List Pl) (st : List (Value × List Int)) (o : Nat) (bs : List Nat) (ats : List Int) (B w : World) (I : Im) (F : List Assn)
  (hS : Sat B w I (blk bc [lv, sv, av] 248 :: Vec 224 3 lv P0.length (P0.flatMap enc) :: Vec 195 1 sv (st.length + 1) (st.map (·.1) ++ [mv]) :: Vec 3 1 av ats.length (ats.map I64) :: rowsA 3 (st ++ [(mv, (o :: bs).map fun (x : Nat) => (x : Int))]) :: F))
  (hR : RelP I P0 Q0) (hob : ∀ b ∈ bs, b ≠ o ∧ b < P0.length) (ho : o < P0.length) (ko co : Int) (hPo : P0[o]? = some (ko, co, .slice none 0 0)) (hQo : Q0[o]? = some (ko, co, [])) (hn : P0.length ≤ 1000) (hd : st.length ≤ 1000) (hd2 : ats.length = st.length + 1) (hbl : bs.length ≤ 1000) :
  Calls Tryz.prog 198 [ptr bc 0].toArray w (Ret fun v w' => v = .tuple #[] ∧ ∃ lv' sv' av' P' J, Le I J ∧ RelP J P' (closeGo P0.length o Q0 [] bs ++ [(6, 0, [])]) ∧
   Sat B w' J (blk bc [lv', sv', av'] 248 :: Vec 224 3 lv' P'.length (P'.flatMap enc) :: Vec 195 1 sv' st.length (st.map (·.1)) :: Vec 3 1 av' st.length ((ats.take st.length).map I64) :: rowsA 3 st :: F)) := by
 refine calls Tryz.func198 rfl Tryz.ntmps198 rfl (.seq ?_)
 have hcl := hob
 obtain ⟨gl, cl, rl, rfl, hcl1, hcl2, hcl3, hcl4, hS⟩ := hS.vecOpen (k := 1) rfl (by omega); try dsimp only [List.set] at hS
 obtain ⟨gs, sc, rs, rfl, hsc1, hsc2, hsc3, hsc4, hS⟩ := hS.vecOpen (k := 2) rfl (by omega); try dsimp only [List.set] at hS
 obtain ⟨aa, ac, rfl, hac, _⟩ := hS.vecSlice (k := 3) rfl
 refine .region (.run 2 rfl trivial (.val (.fieldAddr 1 (.of rfl) Tryz.underlying248 rfl rfl Tryz.sizeOf243 rfl) rfl (.val (.ld (.of rfl) hS (k := 0) rfl Tryz.isAgg243 rfl) rfl (.run 1 rfl ⟨⟨_, Tryz.underlying243⟩, trivial⟩ (.val (.sub (.of rfl) (.of rfl) ⟨by omega, by omega⟩) rfl ?_)))))
 rw [show ((st.length + 1 : Nat) : Int) - 1 = (st.length : Int) by omega]
 refine .run 1 rfl trivial (.nil (.seq (.region (.run 2 rfl trivial (.val (.fieldAddr 1 (.of rfl) Tryz.underlying248 rfl rfl Tryz.sizeOf243 rfl) rfl (.val (.ld (.of rfl) hS (k := 0) rfl Tryz.isAgg243 rfl) rfl (.run 1 rfl trivial (.val (.indexAddr (.of rfl) (.of rfl) (by omega) (by omega) Tryz.underlying243 Tryz.sizeOf195) rfl (.val (.ld (.of rfl) hS (k := 2) rfl Tryz.isAgg195 (v := mv) (by simp)) rfl (.run 1 rfl trivial (.nil (.seq (.drawn (fun w => ∃ R, Sat B w I (blk bc [.slice (some (ad gl 0)) P0.length cl, .slice (some (ad gs 0)) (st.length + 1) sc, .slice aa ats.length ac] 248 :: R)) (fun j => !([16, 19].contains j)) (by kernel_rfl) ?_)))))))))))))
 replace hS := hS.drew; generalize w.drew = w at hS ⊢
 have hH : ∃ R, Sat B w I (blk bc [.slice (some (ad gl 0)) P0.length cl, .slice (some (ad gs 0)) (st.length + 1) sc, .slice aa ats.length ac] 248 :: R) := ⟨_, (hS.pick 0 rfl)⟩
 refine .takeP (i := 0) rfl (by kernel_rfl) (by kernel_rfl) (by kernel_rfl) (fun w => (.move (.of rfl))) rfl (.takeP (i := 1) rfl (by kernel_rfl) (by kernel_rfl) (by kernel_rfl) (fun w => (.move (.of rfl))) rfl (.takeP (i := 2) rfl (by kernel_rfl) (by kernel_rfl) (by kernel_rfl) (fun w => (.move (.of rfl))) rfl (.takeP (i := 3) rfl (by kernel_rfl) (by kernel_rfl) (by kernel_rfl) (fun w => (.nilCheck (.of rfl))) rfl (.takeP (i := 4) rfl (by kernel_rfl) (by kernel_rfl) (by kernel_rfl) (fun w => (.fieldAddr 1 (.of rfl) Tryz.underlying248 rfl rfl Tryz.sizeOf243 rfl)) rfl (.take (i := 5) rfl (by kernel_rfl) (by kernel_rfl) (by kernel_rfl) (by kernel_rfl) hH (fun w ⟨R, hS⟩ => (.ld (.of rfl) hS (k := 0) rfl Tryz.isAgg243 rfl)) rfl (.takeP (i := 6) rfl (by kernel_rfl) (by kernel_rfl) (by kernel_rfl) (fun w => (.move (.of rfl))) rfl (.takeP (i := 7) rfl (by kernel_rfl) (by kernel_rfl) (by kernel_rfl) (fun w => (.slcTo (.of rfl) (.of rfl) (by omega) (by omega) Tryz.underlying243 Tryz.sizeOf195)) rfl (.takeP (i := 8) rfl (by kernel_rfl) (by kernel_rfl) (by kernel_rfl) (fun w => (.move (.of rfl))) rfl (.takeP (i := 9) rfl (by kernel_rfl) (by kernel_rfl) (by kernel_rfl) (fun w => (.nilCheck (.of rfl))) rfl (.takeP (i := 10) rfl (by kernel_rfl) (by kernel_rfl) (by kernel_rfl) (fun w => (.fieldAddr 2 (.of rfl) Tryz.underlying248 rfl rfl Tryz.sizeOf195 rfl)) rfl (.take (i := 11) rfl (by kernel_rfl) (by kernel_rfl) (by kernel_rfl) (by kernel_rfl) hH (fun w ⟨R, hS⟩ => (.ld (.of rfl) hS (k := 0) rfl Tryz.isAgg195 rfl)) rfl (.takeP (i := 12) rfl (by kernel_rfl) (by kernel_rfl) (by kernel_rfl) (fun w => (.move (.of rfl))) rfl (.takeP (i := 13) rfl (by kernel_rfl) (by kernel_rfl) (by kernel_rfl) (fun w => (.slcTo (.of rfl) (.of rfl) (by omega) (by omega) Tryz.underlying195 Tryz.sizeOf3)) rfl (.takeP (i := 14) rfl (by kernel_rfl) (by kernel_rfl) (by kernel_rfl) (fun w => (.nilCheck (.of rfl))) rfl (.takeP (i := 15) rfl (by kernel_rfl) (by kernel_rfl) (by kernel_rfl) (fun w => (.fieldAddr 1 (.of rfl) Tryz.underlying248 rfl rfl Tryz.sizeOf243 rfl)) rfl ?_)))))))))))))))
 refine WD.branch [16] (by kernel_rfl) rfl (WO.cons rfl ?_ (WO.nil))
 refine .st1 hS (k := 0) rfl (.of rfl) (.of rfl) rfl Tryz.sizeOf243 (by simp) ?_
 clear hS; intro w hS; try dsimp only [List.set] at hS
 refine .nil ?_
 refine And.intro (by intro h; cases h) ?_
 refine .takeP (i := 17) rfl (by kernel_rfl) (by kernel_rfl) (by kernel_rfl) (fun w => (.nilCheck (.of rfl))) rfl (.takeP (i := 18) rfl (by kernel_rfl) (by kernel_rfl) (by kernel_rfl) (fun w => (.fieldAddr 2 (.of rfl) Tryz.underlying248 rfl rfl Tryz.sizeOf195 rfl)) rfl ?_)
 refine WD.branch [19] (by kernel_rfl) rfl (WO.cons rfl ?_ (WO.nil))
 refine .st1 hS (k := 0) rfl (.of rfl) (.of rfl) rfl Tryz.sizeOf195 (by simp) ?_
 clear hS; intro w hS; try dsimp only [List.set] at hS
 refine .nil ?_
 refine And.intro (by intro h; cases h) ?_
 refine .done (by kernel_rfl) (.seq (.seq ?_))
 replace hS := hS.vecShut (k := 2) (n := st.length + 1) (cap := sc) rfl hsc1 hsc2 hsc3 hsc4; try dsimp only [List.set] at hS
 replace hS := hS.vecTake (k := 2) (m := (st.length : Int).toNat) rfl (by simp); try dsimp only [List.set] at hS
 obtain ⟨a2, c2, e2, hS⟩ := hS.vecTakeI (k := 3) (f := I64) (m := (st.length : Int).toNat) rfl (by simp; omega); try dsimp only [List.set] at hS
 have e3 : (st.map (·.1) ++ [mv]).take ((st.length : Int).toNat * 1) = st.map (·.1) := by rw [Nat.mul_one]; exact List.take_left' (by simp)
 rw [e3] at hS; rw [e2] at hS
 have e4 : rowsA 3 (st ++ [(mv, (o :: bs).map fun (x : Nat) => (x : Int))]) = SepAll ((st.map fun x => Vec 3 1 x.1 x.2.length (x.2.map I64)) ++ [Vec 3 1 mv ((o :: bs).map fun (x : Nat) => (x : Int)).length (((o :: bs).map fun (x : Nat) => (x : Int)).map I64)]) := by rw [rowsA, List.map_append]; rfl
 rw [e4] at hS
 replace hS := hS.pop (k := 4) rfl; try dsimp only [List.set] at hS
 obtain ⟨gm, cm, rm, hmv, hcm1, hcm2, hcm3, hcm4, hT⟩ := hS.vecOpen (k := 0) rfl (by simp)
 have hml : ((o :: bs).map fun (x : Nat) => (x : Int)).length = bs.length + 1 := by simp
 rw [hml] at hmv; subst hmv; have hS := hT; clear hT; try dsimp only [List.set] at hS
 generalize sliced (some (ad gs 0)) 0 (st.length : Int).toNat sc 1 = sv2 at hS
 generalize Value.slice a2 (ats.take (st.length : Int).toNat).length c2 = av2 at hS
 refine .region (.run 1 rfl trivial (.val (.slcFrom (.of rfl) (.of rfl) (by omega) (by omega) Tryz.underlying195 Tryz.sizeOf3) rfl ?_))
 obtain ⟨ao, hao, e38⟩ : ∃ ao, (0 < bs.length → ao = some (ad gm 1)) ∧ sliced (some (ad gm 0)) (1 : Int).toNat (bs.length + 1) cm 1 = .slice ao bs.length (cm - 1) := ⟨if cm = 1 then some (ad gm 0) else some (ad gm 1), fun h => if_neg (by omega), by simp [sliced, add_ad]⟩
 rw [e38]
 refine .run 2 rfl ⟨⟨_, Tryz.underlying195⟩, trivial⟩ (.nil (.block (.loop (σ := List Nat × List Nat × List Cell3 × List Pl × Value × Im) (fun ⟨pre, rem, P, Q, tv, J⟩ => [(0, ptr bc 0), (3, .slice (some (ad gm 0)) (bs.length + 1) cm), (38, .slice ao bs.length (cm - 1)), (39, I64 bs.length), (40, I64 pre.length)]) (fun ⟨pre, rem, P, Q, tv, J⟩ w => bs = pre ++ rem ∧ Le I J ∧ RelX J o P Q ∧ P.length = P0.length ∧ (∃ k c, P[o]? = some (k, c, tv)) ∧ (∃ k c, Q[o]? = some (k, c, pre.map fun (x : Nat) => (x : Int) + 1)) ∧ (pre = [] → tv = .slice none 0 0) ∧ closeGo P0.length o Q (pre.map fun (x : Nat) => (x : Int) + 1) rem = closeGo P0.length o Q0 [] bs ∧ Sat B w J (Vec 3 1 tv pre.length ((pre.map fun (x : Nat) => (x : Int) + 1).map I64) :: blk gm (((o :: bs).map fun (x : Nat) => (x : Int)).map I64 ++ rm) 3 :: blk bc [.slice (some (ad gl 0)) P0.length cl, sv2, av2] 248 :: blk gl (P.flatMap enc ++ rl) 224 :: Vec 195 1 sv2 (st.length : Int).toNat (st.map (·.1)) :: Vec 3 1 av2 (ats.take (st.length : Int).toNat).length ((ats.take (st.length : Int).toNat).map I64) :: rowsA 3 st :: F)) (fun ⟨pre, rem, P, Q, tv, J⟩ => rem.length) ([], bs, P0, Q0, .slice none 0 0, I) ⟨rfl, rfl, rfl, rfl, rfl, trivial⟩ ⟨rfl, Le.refl I, hR.x o, rfl, ⟨_, _, hPo⟩, ⟨_, _, hQo⟩, fun _ => rfl, rfl, hS.vecNil _ _⟩ ?_)))
 rintro ⟨pre, rem, P, Q, tv, J⟩ w ⟨hbs, hJ, hX, hPl, ⟨ko, co, hPo⟩, ⟨kq, cq, hQo⟩, htv, hgo, hS⟩
 change WC _ _ _ _ [(0, ptr bc 0), (3, .slice (some (ad gm 0)) (bs.length + 1) cm), (38, .slice ao bs.length (cm - 1)), (39, I64 bs.length), (40, I64 pre.length)] w
 have hlen : bs.length = pre.length + rem.length := by rw [hbs, List.length_append]
 refine .seq (.region (.run 1 rfl trivial (.nil (.seq ?_))))
 refine WC.cond rfl (fun hb41 => ?_) (fun hb41 => ?_)
 ·
  have hc41 := hb41; try simp only [Gk.cs0] at hc41
  refine .skip (.seq (.block (.seq (.region ?_))))
  obtain ⟨b, r, rfl⟩ : ∃ b r, rem = b :: r := by
   cases rem with
   | nil => simp at hlen; omega
   | cons b r => exact ⟨b, r, rfl⟩
  have hao2 := hao (by omega); subst hao2
  have hbo := (hob b (by rw [hbs]; simp)).1
  have hbl2 := (hob b (by rw [hbs]; simp)).2
  have hpre : pre.length ≤ 1000 := by omega
  refine .val (.indexAddr (.of rfl) (.of rfl) (by omega) (by omega) Tryz.underlying195 Tryz.sizeOf3) rfl (.val (.ld (.of rfl) hS (k := 1) rfl Tryz.isAgg3 (v := I64 b) (marks_get hbs rm)) rfl (.run 1 rfl trivial (.nil (.seq (.drawn (fun w => ∃ R, Sat B w J (blk gm (((o :: bs).map fun (x : Nat) => (x : Int)).map I64 ++ rm) 3 :: blk bc [.slice (some (ad gl 0)) P0.length cl, sv2, av2] 248 :: blk gl (P.flatMap enc ++ rl) 224 :: R)) (fun j => !([23].contains j)) (by kernel_rfl) ?_)))))
  replace hS := hS.drew; generalize w.drew = w at hS ⊢
  have hH : ∃ R, Sat B w J (blk gm (((o :: bs).map fun (x : Nat) => (x : Int)).map I64 ++ rm) 3 :: blk bc [.slice (some (ad gl 0)) P0.length cl, sv2, av2] 248 :: blk gl (P.flatMap enc ++ rl) 224 :: R) := ⟨_, (((hS.pick 3 rfl).pick 3 rfl).pick 3 rfl)⟩
  refine .takeP (i := 0) rfl (by kernel_rfl) (by kernel_rfl) (by kernel_rfl) (fun w => (.move (.of rfl))) rfl (.takeP (i := 1) rfl (by kernel_rfl) (by kernel_rfl) (by kernel_rfl) (fun w => (.nilCheck (.of rfl))) rfl (.takeP (i := 2) rfl (by kernel_rfl) (by kernel_rfl) (by kernel_rfl) (fun w => (.fieldAddr 0 (.of rfl) Tryz.underlying248 rfl rfl Tryz.sizeOf219 rfl)) rfl (.take (i := 3) rfl (by kernel_rfl) (by kernel_rfl) (by kernel_rfl) (by kernel_rfl) hH (fun w ⟨R, hS⟩ => (.ld (.of rfl) hS (k := 1) rfl Tryz.isAgg219 rfl)) rfl (.takeP (i := 4) rfl (by kernel_rfl) (by kernel_rfl) (by kernel_rfl) (fun w => (.move (.of rfl))) rfl (.takeP (i := 5) rfl (by kernel_rfl) (by kernel_rfl) (by kernel_rfl) (fun w => (.indexAddr (.of rfl) (.of rfl) (by omega) (by omega) Tryz.underlying195 Tryz.sizeOf3)) rfl (.take (i := 6) rfl (by kernel_rfl) (by kernel_rfl) (by kernel_rfl) (by kernel_rfl) hH (fun w ⟨R, hS⟩ => .ld (.of rfl) hS (k := 0) rfl Tryz.isAgg3 (v := I64 (o : Nat)) rfl) rfl (.takeP (i := 7) rfl (by kernel_rfl) (by kernel_rfl) (by kernel_rfl) (fun w => (.move (.of rfl))) rfl (.takeP (i := 8) rfl (by kernel_rfl) (by kernel_rfl) (by kernel_rfl) (fun w => (.nilCheck (.of rfl))) rfl (.takeP (i := 9) rfl (by kernel_rfl) (by kernel_rfl) (by kernel_rfl) (fun w => (.fieldAddr 0 (.of rfl) Tryz.underlying248 rfl rfl Tryz.sizeOf219 rfl)) rfl (.take (i := 10) rfl (by kernel_rfl) (by kernel_rfl) (by kernel_rfl) (by kernel_rfl) hH (fun w ⟨R, hS⟩ => (.ld (.of rfl) hS (k := 1) rfl Tryz.isAgg219 rfl)) rfl (.takeP (i := 11) rfl (by kernel_rfl) (by kernel_rfl) (by kernel_rfl) (fun w => (.move (.of rfl))) rfl (.takeP (i := 12) rfl (by kernel_rfl) (by kernel_rfl) (by kernel_rfl) (fun w => (.indexAddr (.of rfl) (.of rfl) (by omega) (by omega) Tryz.underlying195 Tryz.sizeOf3)) rfl (.take (i := 13) rfl (by kernel_rfl) (by kernel_rfl) (by kernel_rfl) (by kernel_rfl) hH (fun w ⟨R, hS⟩ => .ld (.of rfl) hS (k := 0) rfl Tryz.isAgg3 (v := I64 (o : Nat)) rfl) rfl (.takeP (i := 14) rfl (by kernel_rfl) (by kernel_rfl) (by kernel_rfl) (fun w => (.indexAddr (.of rfl) (.of rfl) (by omega) (by omega) Tryz.underlying219 Tryz.sizeOf224)) rfl (.takeP (i := 15) rfl (by kernel_rfl) (by kernel_rfl) (by kernel_rfl) (fun w => (.fieldAddr 2 (.of rfl) Tryz.underlying224 rfl rfl Tryz.sizeOf195 rfl)) rfl (.take (i := 16) rfl (by kernel_rfl) (by kernel_rfl) (by kernel_rfl) (by kernel_rfl) hH (fun w ⟨R, hS⟩ => .ld (.of rfl) hS (k := 2) rfl Tryz.isAgg195 (v := tv) (to_get hPo rl)) rfl (.takeP (i := 17) rfl (by kernel_rfl) (by kernel_rfl) (by kernel_rfl) (fun w => (.move (.of rfl))) rfl (.takeP (i := 18) rfl (by kernel_rfl) (by kernel_rfl) (by kernel_rfl) (fun w => (.add (.of rfl) (.of rfl) ⟨by omega, by omega⟩)) rfl ?_))))))))))))))))))
  refine WD.branch [19] (by kernel_rfl) rfl (WO.cons rfl ?_ (WO.nil))
  refine .buildSlice (cs := [_]) hS (parts_cons (.of rfl) parts_nil) Tryz.underlying195 Tryz.sizeOf3 Tryz.zeroValue3 rfl rfl rfl rfl ?_
  clear hS; intro b63 w hS
  refine .nil ?_
  clear hH
  have hH : ∃ R, Sat B w J (blk gm (((o :: bs).map fun (x : Nat) => (x : Int)).map I64 ++ rm) 3 :: blk bc [.slice (some (ad gl 0)) P0.length cl, sv2, av2] 248 :: blk gl (P.flatMap enc ++ rl) 224 :: R) := ⟨_, (((hS.pick 4 rfl).pick 4 rfl).pick 4 rfl)⟩
  refine And.intro (by intro _ _; exact hH) ?_
  refine WD.branch [20] (by kernel_rfl) rfl (WO.cons rfl ?_ (WO.nil))
  refine WL.append (size := 1) (bytes := 8) hS (.of rfl) (.of rfl) (k := 0) rfl Tryz.underlying195 info3_196 rfl rfl rfl rfl rfl rfl rfl ⟨by omega, by unfold maxLen; omega⟩ rfl ?_
  clear hS; intro v64 w hS; try dsimp only [List.set] at hS
  obtain ⟨a64, c64, rfl, hcap64, _⟩ := hS.vecSlice (k := 0) (v := v64) rfl
  refine .nil ?_
  clear hH
  have hH : ∃ R, Sat B w J (blk gm (((o :: bs).map fun (x : Nat) => (x : Int)).map I64 ++ rm) 3 :: blk bc [.slice (some (ad gl 0)) P0.length cl, sv2, av2] 248 :: blk gl (P.flatMap enc ++ rl) 224 :: R) := ⟨_, (((hS.pick 3 rfl).pick 3 rfl).pick 3 rfl)⟩
  refine And.intro (by intro _ _; exact hH) ?_
  refine .takeP (i := 21) rfl (by kernel_rfl) (by kernel_rfl) (by kernel_rfl) (fun w => (.indexAddr (.of rfl) (.of rfl) (by omega) (by omega) Tryz.underlying219 Tryz.sizeOf224)) rfl (.takeP (i := 22) rfl (by kernel_rfl) (by kernel_rfl) (by kernel_rfl) (fun w => (.fieldAddr 2 (.of rfl) Tryz.underlying224 rfl rfl Tryz.sizeOf195 rfl)) rfl ?_)
  refine WD.branch [23] (by kernel_rfl) rfl (WO.cons rfl ?_ (WO.nil))
  refine WL.st1 hS (k := 3) rfl (.of rfl) (.of rfl) rfl Tryz.sizeOf195 (by rw [List.length_append, flat_len enc 3 enc_len]; (try simp only [setTo_len]); omega) ?_
  clear hS; intro w hS; try dsimp only [List.set] at hS
  simp only [Int.toNat_natCast] at hS
  rw [to_set (by (try simp only [setTo_len]); omega)] at hS
  refine .nil ?_
  refine And.intro (by intro h; cases h) ?_
  refine .done (by kernel_rfl) (.drawn (fun w => ∃ R, Sat B w J (blk bc [.slice (some (ad gl 0)) P0.length cl, sv2, av2] 248 :: R)) (fun j => !([13].contains j)) (by kernel_rfl) ?_)
  replace hS := hS.drew; generalize w.drew = w at hS ⊢
  have hH : ∃ R, Sat B w J (blk bc [.slice (some (ad gl 0)) P0.length cl, sv2, av2] 248 :: R) := ⟨_, (hS.pick 2 rfl)⟩
  refine .takeP (i := 0) rfl (by kernel_rfl) (by kernel_rfl) (by kernel_rfl) (fun w => (.move (.of rfl))) rfl (.takeP (i := 1) rfl (by kernel_rfl) (by kernel_rfl) (by kernel_rfl) (fun w => (.nilCheck (.of rfl))) rfl (.takeP (i := 2) rfl (by kernel_rfl) (by kernel_rfl) (by kernel_rfl) (fun w => (.fieldAddr 0 (.of rfl) Tryz.underlying248 rfl rfl Tryz.sizeOf219 rfl)) rfl (.take (i := 3) rfl (by kernel_rfl) (by kernel_rfl) (by kernel_rfl) (by kernel_rfl) hH (fun w ⟨R, hS⟩ => (.ld (.of rfl) hS (k := 0) rfl Tryz.isAgg219 rfl)) rfl (.takeP (i := 4) rfl (by kernel_rfl) (by kernel_rfl) (by kernel_rfl) (fun w => (.move (.of rfl))) rfl (.takeP (i := 5) rfl (by kernel_rfl) (by kernel_rfl) (by kernel_rfl) (fun w => (.move (.of rfl))) rfl (.takeP (i := 6) rfl (by kernel_rfl) (by kernel_rfl) (by kernel_rfl) (fun w => (.nilCheck (.of rfl))) rfl (.takeP (i := 7) rfl (by kernel_rfl) (by kernel_rfl) (by kernel_rfl) (fun w => (.fieldAddr 0 (.of rfl) Tryz.underlying248 rfl rfl Tryz.sizeOf219 rfl)) rfl (.take (i := 8) rfl (by kernel_rfl) (by kernel_rfl) (by kernel_rfl) (by kernel_rfl) hH (fun w ⟨R, hS⟩ => (.ld (.of rfl) hS (k := 0) rfl Tryz.isAgg219 rfl)) rfl (.takeP (i := 9) rfl (by kernel_rfl) (by kernel_rfl) (by kernel_rfl) (fun w => (.lenSlice (.of rfl) Tryz.underlying219)) rfl ?_)))))))))
  refine WD.branch [10] (by kernel_rfl) rfl (WO.cons rfl ?_ (WO.nil))
  refine .buildSlice (cs := [_]) hS (parts_cons (.of rfl) parts_nil) Tryz.underlying195 Tryz.sizeOf3 Tryz.zeroValue3 rfl rfl rfl rfl ?_
  clear hS; intro b77 w hS
  refine .nil ?_
  clear hH
  have hH : ∃ R, Sat B w J (blk bc [.slice (some (ad gl 0)) P0.length cl, sv2, av2] 248 :: R) := ⟨_, (hS.pick 3 rfl)⟩
  refine And.intro (by intro _ _; exact hH) ?_
  refine .takeP (i := 11) rfl (by kernel_rfl) (by kernel_rfl) (by kernel_rfl) (fun w => (.indexAddr (.of rfl) (.of rfl) (by omega) (by omega) Tryz.underlying219 Tryz.sizeOf224)) rfl (.takeP (i := 12) rfl (by kernel_rfl) (by kernel_rfl) (by kernel_rfl) (fun w => (.fieldAddr 2 (.of rfl) Tryz.underlying224 rfl rfl Tryz.sizeOf195 rfl)) rfl ?_)
  refine WD.branch [13] (by kernel_rfl) rfl (WO.cons rfl ?_ (WO.nil))
  refine WL.st1 hS (k := 4) rfl (.of rfl) (.of rfl) rfl Tryz.sizeOf195 (by rw [List.length_append, flat_len enc 3 enc_len]; (try simp only [setTo_len]); omega) ?_
  clear hS; intro w hS; try dsimp only [List.set] at hS
  simp only [Int.toNat_natCast] at hS
  rw [to_set (by (try simp only [setTo_len]); omega)] at hS
  obtain ⟨J2, hJ2, hb2, hS⟩ := hS.freeze (k := 0) rfl; try dsimp only [List.eraseIdx] at hS
  have hI2 : IntsI J2 (.slice (some (ad b77 0)) 1 1) [(P0.length : Int)] := ⟨(fun h => by cases h), _, _, rfl, Nat.le_refl _, rfl, fun _ => ⟨_, rfl, rfl, _, _, _, hb2, fun j u hj => by simpa using hj⟩⟩
  refine .nil ?_
  refine And.intro (by intro h; cases h) ?_
  refine .done (by kernel_rfl) (.region ?_)
  skip
  refine .val (.add (.of rfl) (.of rfl) ⟨by omega, by omega⟩) rfl ?_
  rw [show ((pre.length : Nat) : Int) + 1 = ((pre ++ [b]).length : Nat) by simp]
  refine .run 1 rfl trivial (.nil ?_)
  refine ⟨(pre ++ [b], r, setTo (setTo P o (.slice a64 (pre.length + 1) c64)) b (.slice (some (ad b77 0)) 1 1), setToL (setToL Q o (pre.map (fun (x : Nat) => (x : Int) + 1) ++ [(b : Int) + 1])) b [(P0.length : Int)], .slice a64 (pre.length + 1) c64, J2), ⟨rfl, rfl, rfl, rfl, rfl, trivial⟩, ⟨by rw [hbs]; simp, hJ.trans hJ2, ((hX.setO _ _).mono hJ2).setB _ _ _ hI2, by simp [setTo, hPl], ⟨ko, co, ?_⟩, ⟨kq, cq, ?_⟩, fun h => by simp at h, ?_, ?_⟩, by simp⟩
  ·simp [setTo, List.getElem?_modify, hPo, hbo]
  ·simp [setToL, List.getElem?_modify, hQo, hbo]
  ·rw [← hgo, closeGo]; simp
  ·simpa using hS
 have hc41 := hb41; try simp only [Gk.cs0] at hc41
 refine .exit ?_
 have hrem : rem = [] := by
  cases rem with
  | nil => rfl
  | cons b r => simp at hlen; omega
 subst hrem
 replace hS := hS.drop (k := 1) rfl; try dsimp only [List.eraseIdx] at hS
 obtain ⟨J2, hJ2, hI2, hS⟩ := freezeInts (k := 0) (xs := pre.map fun (x : Nat) => (x : Int) + 1) hS (by rw [List.length_map]; rfl) (fun h => htv (by simpa using h)); try dsimp only [List.eraseIdx] at hS
 replace hS := hS.vecShut (k := 1) (n := P.length) (cap := cl) rfl (by omega) hcl2 (by rw [flat_len enc 3 enc_len]) (by rw [flat_len enc 3 enc_len] at hcl4 ⊢; omega); try dsimp only [List.set] at hS
 rw [← hPl] at hS ⊢
 refine .region (.run 1 rfl trivial (.call Tryz.func196 rfl (evs_cons (.of rfl) (evs_cons (.of rfl) (evs_cons (.of rfl) evs_nil))) rfl (put_any _ _ _ _ _ _ _ _ _ _ _ _ hS (by omega)) ?_))
 clear hS
 rintro _ w ⟨rfl, lv2, hS⟩
 refine .nil (end0 Tryz.results198 ?_)
 replace hS := hS.say (k := 1) (A' := Vec 224 3 lv2 (P.length + 1) ((P ++ [((6 : Int), (0 : Int), Value.slice none 0 0)]).flatMap enc)) rfl (fun h hh => by rw [List.flatMap_append]; exact hh); try dsimp only [List.set] at hS
 refine ⟨_, rfl, rfl, lv2, sv2, av2, P ++ [(6, 0, .slice none 0 0)], J2, hJ.trans hJ2, ?_, ?_⟩
 ·rw [hPl, ← hgo, closeGo]
  exact ((hX.mono hJ2).back (fun p q hp hq => by rw [hPo] at hp; rw [hQo] at hq; cases hp; cases hq; exact hI2)).snoc 6 0 _ _ (IntsI.nil _)
 ·have e5 : (ats.take (st.length : Int).toNat).length = st.length := by rw [Int.toNat_natCast, List.length_take]; omega
  rw [e5] at hS
  rw [List.length_append]
  exact hS
theorem slHasPrefix_any (s p : List UInt8) (w : World) (hs : s.length ≤ 140737488351232) (hp : p.length ≤ 140737488351232) :
  Calls Tryz.prog 184 [S s, S p].toArray w (Ret fun v w' => v = .bool (hasPre s p) ∧ w = w') := by
 refine calls Tryz.func184 rfl Tryz.ntmps184 rfl (.seq (.region (.run 1 rfl trivial (.nil (.seq (.region (.run 6 rfl ⟨Tryz.underlying9, Tryz.underlying9, trivial⟩ (.gval rfl rfl (fun hg1 => (.move (.of rfl))) rfl (.gval rfl rfl (fun hg1 => (.move (.of rfl))) rfl (.gval rfl rfl (fun hg1 => (.len (.gd hg1 rfl) Tryz.underlying9)) rfl ?_))))))))))
 refine WL.gval rfl rfl (fun hg1 => (.subTo (.gd hg1 rfl) (.gd hg1 rfl) (by (try simp only [Gk.cs0] at hg1); omega) (by (try simp only [Gk.cs0] at hg1); omega) Tryz.underlying9)) rfl ?_
 refine .gval rfl rfl (fun hg1 => (.move (.of rfl))) rfl (.gval rfl rfl (fun hg1 => (.eqs (.gd hg1 rfl) (.gd hg1 rfl))) rfl (.val (.pand (.of rfl) (.of rfl) (.of rfl)) rfl (.run 1 rfl trivial (.nil (.ret (ret1 Tryz.results184 rfl ?_))))))
 exact ⟨_, rfl, rfl, rfl⟩
theorem HasPrefix_any (s p : List UInt8) (w : World) (hs : s.length ≤ 140737488351232) (hp : p.length ≤ 140737488351232) :
  Calls Tryz.prog 151 [S s, S p].toArray w (Ret fun v w' => v = .bool (hasPre s p) ∧ w = w') := by
 refine calls Tryz.func151 rfl Tryz.ntmps151 rfl (.seq (.region (.run 1 rfl trivial (.nil (.seq (.region (.run 2 rfl trivial (.call Tryz.func184 rfl (evs_cons (.of rfl) (evs_cons (.of rfl) evs_nil)) rfl (slHasPrefix_any _ _ _ hs hp) ?_))))))))
 rintro _ _ ⟨rfl, rfl⟩
 refine .run 1 rfl trivial (.nil (.ret (ret1 Tryz.results151 rfl ?_)))
 exact ⟨_, rfl, rfl, rfl⟩
end Go.Proofs.YtadhiihnnkcagaaGreatDoor
