/- The key of any names, and the names of any key, are as the document says; a key's names are those that it was made of. -/
import Derived.Test.YtkpmmikpdjhliaaDoorWalkLabelNames
import Derived.Test.YtkpmmikpdjhliaaDoorQx20
import Derived.Lib.SplitLaws
namespace Go.Proofs.YtkpmmikpdjhliaaDoor.Walk
set_option linter.unusedVariables false
set_option linter.unusedSimpArgs false
open Go.RowKit Go.Proofs.YtkpmmikpdjhliaaDoor.Q Go.Proofs.YtkpmmikpdjhliaaDoorW.PrintWords Go.Proofs.YtkpmmikpdjhliaaDoorW.PrintLast Go.Proofs.YtkpmmikpdjhliaaDoorW.PrintMore

/-! ### texts cut at strokes -/
def consHead (c : UInt8) : List (List UInt8) → List (List UInt8)
  | [] => [[c]]
  | h :: r => (c :: h) :: r
def spl : List UInt8 → List (List UInt8)
  | [] => [[]]
  | c :: t => if c = 47 then [] :: spl t else consHead c (spl t)
theorem spl_ne : ∀ l, spl l ≠ []
  | [] => by simp [spl]
  | c :: t => by
    unfold spl
    split
    · simp
    · unfold consHead
      split <;> simp
theorem index_cons_ne (c : UInt8) (t : List UInt8) (h : c ≠ 47) : Lib.index (c :: t) [47] = if Lib.index t [47] == -1 then -1 else Lib.index t [47] + 1 := by
  have hp : ([47] : List UInt8).isPrefixOf (c :: t) = false := by simp [List.isPrefixOf, Ne.symm h]
  rw [Lib.index, hp]
  simp
theorem splitK_spl : ∀ s : List UInt8, Lib.splitK [47] 0 (Lib.count s [47]) s = spl s
  | [] => rfl
  | c :: t => by
    have ih := splitK_spl t
    by_cases h : c = 47
    · subst h
      have hix : Lib.index (47 :: t) [47] = ((0 : Nat) : Int) := by rw [Lib.index]; simp [List.isPrefixOf]
      rw [Lib.count_cons_eq, Nat.add_comm, Lib.splitK, hix]
      simp [spl, ih]
    · rw [Lib.count_cons_ne c 47 t h]
      have e : spl (c :: t) = consHead c (spl t) := by rw [spl, if_neg h]
      rw [e, ← ih]
      have hi := index_cons_ne c t h
      have hge := Lib.index_ge t [47]
      by_cases hm : Lib.index t [47] = -1
      · rw [Lib.count_miss hm]
        rfl
      · obtain ⟨j, hj⟩ : ∃ j : Nat, Lib.index t [47] = j := ⟨(Lib.index t [47]).toNat, by omega⟩
        have hi' : Lib.index (c :: t) [47] = ((j + 1 : Nat) : Int) := by rw [hi, if_neg (fun e => hm (beq_iff_eq.1 e)), hj]; omega
        rw [Lib.count_hit (by simp) hj, Nat.add_comm]
        simp only [Lib.splitK, hj, hi']
        rw [if_neg (fun e => by have := beq_iff_eq.1 e; omega), if_neg (fun e => by have := beq_iff_eq.1 e; omega)]
        simp [consHead]
theorem spl_length : ∀ l : List UInt8, (spl l).length = l.count 47 + 1
  | [] => rfl
  | c :: t => by
    have ih := spl_length t
    rw [spl]
    by_cases h : c = 47
    · subst h
      rw [if_pos rfl, List.length_cons, ih, List.count_cons_self]
    · rw [if_neg h, List.count_cons_of_ne (by simpa using h), ← ih]
      unfold consHead
      split
      · rename_i hn
        exact absurd hn (spl_ne t)
      · rename_i hn
        rw [hn]
        rfl
theorem spl_no (x : List UInt8) (h : (47 : UInt8) ∉ x) : spl x = [x] := by
  induction x with
  | nil => rfl
  | cons c t ih =>
    simp only [List.mem_cons, not_or] at h
    rw [spl, if_neg (fun e => h.1 e.symm), ih h.2]
    rfl
theorem spl_cons (x t : List UInt8) (h : (47 : UInt8) ∉ x) : spl (x ++ 47 :: t) = x :: spl t := by
  induction x with
  | nil => rw [List.nil_append, spl, if_pos rfl]
  | cons c x ih =>
    simp only [List.mem_cons, not_or] at h
    rw [List.cons_append, spl, if_neg (fun e => h.1 e.symm), ih h.2]
    rfl
theorem spl_join : ∀ (l : List (List UInt8)), l ≠ [] → (∀ x ∈ l, (47 : UInt8) ∉ x) → spl (Lib.join l [47]) = l
  | [], h, _ => absurd rfl h
  | [x], _, h => by rw [Lib.join_one]; exact spl_no x (h x (by simp))
  | x :: y :: r, _, h => by
    have ih := spl_join (y :: r) (by simp) (fun z hz => h z (by simp only [List.mem_cons] at hz ⊢; exact .inr hz))
    have e : Lib.join (x :: y :: r) [47] = x ++ 47 :: Lib.join (y :: r) [47] := by
      rw [Lib.join_cons, Lib.join_cons]
      simp [Lib.joinTail]
    rw [e, spl_cons x _ (h x (by simp)), ih]

/-! ### keys -/
def bl (l : List ByteArray) : List (List UInt8) := l.map (·.data.toList)
def okN (x : ByteArray) : Bool := Utf.goodD x.data.toList
def keyR (l : List ByteArray) : ByteArray × Bool := if 0 < l.length ∧ l.length ≤ 8 ∧ l.all okN = true then (⟨(Lib.join (bl l) [47]).toArray⟩, true) else (⟨#[]⟩, false)
theorem join_len (l : List ByteArray) (n : Nat) (h : ∀ x ∈ l, x.size ≤ n) : (Lib.join (bl l) [47]).length ≤ (n + 1) * l.length := by
  cases l with
  | nil => simp [bl, Lib.join_nil]
  | cons x r =>
    have hl : Lib.lens (bl (x :: r)) ≤ n * (x :: r).length := by
      generalize x :: r = q at h ⊢
      induction q with
      | nil => simp [bl, Lib.lens]
      | cons y s ih =>
        have h1 := ih (fun z hz => h z (by simp [hz]))
        have h2 := h y (by simp)
        rw [Lib.size_eq] at h2
        simp only [bl, List.map_cons, Lib.lens, List.foldr_cons, List.sum_cons, List.length_cons, Nat.mul_succ] at h1 ⊢
        first | omega | (simp at h1 ⊢; omega)
    have e : bl (x :: r) = x.data.toList :: bl r := rfl
    rw [e, Lib.join_length]
    rw [e] at hl
    simp only [List.length_cons, List.length_nil, bl, List.length_map] at hl ⊢
    have e2 : (n + 1) * (r.length + 1) = n * (r.length + 1) + (r.length + 1) := by rw [Nat.succ_mul]
    omega
theorem rd_mem (l : List ByteArray) (i : Nat) (h : i < l.length) : rdOf ByteArray.empty l (i : Int) = l[i] := by
  unfold rdOf
  rw [Int.toNat_natCast, List.getD_eq_getElem?_getD, List.getElem?_eq_getElem h, Option.getD_some]
theorem join_f (l : List ByteArray) (hl : l.length ≤ 1000) (hx : ∀ x ∈ l, x.size ≤ 4000) : strings_Join.f l ⟨#[47]⟩ = some ⟨(Lib.join (bl l) [47]).toArray⟩ := by
  have h := join_len l 4000 hx
  unfold strings_Join.f
  rw [if_pos ⟨by omega, by show (Lib.join (bl l) [47]).length ≤ _; omega⟩]
  rfl
theorem key_l (l : List ByteArray) (h0 : 0 < l.length) (h8 : l.length ≤ 8) (hx : ∀ x ∈ l, x.size ≤ 4000) : ∀ (d i k : Nat), i + d = l.length → d + 1 ≤ k → label_Key.l0 k l l (l.length : Int) (i : Int) = some (if (l.drop i).all okN = true then (⟨(Lib.join (bl l) [47]).toArray⟩, true) else (⟨#[]⟩, false)) := by
  intro d
  induction d with
  | zero =>
    intro i k hi hk
    obtain ⟨k, rfl⟩ : ∃ q, k = q + 1 := ⟨k - 1, by omega⟩
    rw [label_Key.l0, if_neg (by omega), join_f l (by omega) hx, Option.bind_some, List.drop_of_length_le (by omega)]
    rfl
  | succ d ih =>
    intro i k hi hk
    obtain ⟨k, rfl⟩ : ∃ q, k = q + 1 := ⟨k - 1, by omega⟩
    have hlt : i < l.length := by omega
    rw [label_Key.l0, if_pos (by omega), if_pos (by omega), if_pos (by omega), rd_mem l i hlt, good_f _ (hx _ (List.getElem_mem hlt)), Option.bind_some, List.drop_eq_getElem_cons hlt, List.all_cons]
    cases hg : Utf.goodD l[i].data.toList with
    | false =>
      rw [if_neg (by decide), show okN l[i] = false from hg]
      rfl
    | true =>
      rw [if_pos rfl, show wrap64 ((i : Int) + 1) = ((i + 1 : Nat) : Int) by unfold wrap64; omega, ih (i + 1) k (by omega) (by omega), show okN l[i] = true from hg, Bool.true_and]
theorem key_f (l : List ByteArray) (hl : l.length ≤ 100000) (hx : ∀ x ∈ l, x.size ≤ 4000) (k : Nat) (hk : l.length + 5 ≤ k) : label_Key.f k l = some (keyR l) := by
  unfold label_Key.f keyR
  obtain ⟨k, rfl⟩ : ∃ q, k = q + 1 := ⟨k - 1, by omega⟩
  by_cases h0 : l.length = 0
  · rw [if_pos (by omega), label_Key.j0, if_pos rfl, if_neg (by omega)]
  · rw [if_neg (by omega), label_Key.j0]
    by_cases h8 : l.length ≤ 8
    · rw [decide_eq_false (by omega), if_neg (by decide), show (0 : Int) = ((0 : Nat) : Int) from rfl, key_l l (by omega) h8 hx l.length 0 k (by omega) (by omega), List.drop_zero]
      by_cases ha : l.all okN = true
      · rw [if_pos ha, if_pos ⟨by omega, h8, ha⟩]
      · rw [if_neg ha, if_neg (fun h => ha h.2.2)]
    · rw [decide_eq_true (by omega), if_pos rfl, if_neg (fun h => h8 h.2.1)]
theorem join_take_succ (l : List ByteArray) (i : Nat) (h : i < l.length) (h0 : 0 < i) : Lib.join (bl (l.take (i + 1))) [47] = Lib.join (bl (l.take i)) [47] ++ [47] ++ l[i].data.toList := by
  cases l with
  | nil => simp at h
  | cons x r =>
    obtain ⟨j, rfl⟩ : ∃ j, i = j + 1 := ⟨i - 1, by omega⟩
    simp only [List.take_succ_cons]
    have hb : ∀ q : List ByteArray, bl (x :: q) = x.data.toList :: bl q := fun _ => rfl
    have ht : ∀ n, bl (r.take n) = (bl r).take n := fun n => by simp [bl, List.map_take]
    rw [hb, hb, Lib.join_cons, Lib.join_cons, ht, ht]
    simp only [List.length_cons] at h
    have hj : j < r.length := by omega
    have := Lib.joinTail_take_succ [47] (bl r) j (r[j].data.toList) (by simp [bl, List.getElem?_eq_getElem hj])
    rw [this]
    simp [List.append_assoc]
theorem ref_key_l (l : List ByteArray) (hl : l.length ≤ 100000) (hx : ∀ x ∈ l, x.size ≤ 4000) : ∀ (d i k : Nat) (acc : ByteArray), i + d = l.length → acc.data.toList = Lib.join (bl (l.take i)) [47] → d + 8100 ≤ k → usufructref02_Key.l0 k l acc (i : Int) = some (if (l.drop i).all okN = true ∧ 0 < l.length ∧ l.length ≤ 8 then (⟨(Lib.join (bl l) [47]).toArray⟩, true) else (⟨#[]⟩, false)) := by
  intro d
  induction d with
  | zero =>
    intro i k acc hi ha hk
    obtain ⟨k, rfl⟩ : ∃ q, k = q + 1 := ⟨k - 1, by omega⟩
    rw [usufructref02_Key.l0, if_neg (by omega), List.drop_of_length_le (by omega)]
    by_cases h0 : l.length = 0
    · rw [if_pos (by omega), if_neg (by omega)]
    · rw [if_neg (by omega)]
      by_cases h8 : l.length ≤ 8
      · rw [if_neg (by omega), if_pos ⟨rfl, by omega, h8⟩]
        rw [List.take_of_length_le (by omega)] at ha
        rw [show acc = ⟨(Lib.join (bl l) [47]).toArray⟩ from bytes_ext ha]
      · rw [if_pos (by omega), if_neg (fun h => h8 h.2.2)]
  | succ d ih =>
    intro i k acc hi ha hk
    obtain ⟨k, rfl⟩ : ∃ q, k = q + 1 := ⟨k - 1, by omega⟩
    have hlt : i < l.length := by omega
    have hsz := hx _ (List.getElem_mem hlt)
    rw [usufructref02_Key.l0, if_pos (by omega), if_pos (by omega), rd_mem l i hlt, ref_good _ (by omega) k (by omega), Option.bind_some, List.drop_eq_getElem_cons hlt, List.all_cons]
    cases hg : Utf.goodD l[i].data.toList with
    | false =>
      rw [if_neg (by decide), show okN l[i] = false from hg]
      rfl
    | true =>
      have hjl := join_len (l.take i) 4000 (fun x h => hx x (List.mem_of_mem_take h))
      rw [← ha, ← Lib.size_eq, List.length_take] at hjl
      have hmin : min i l.length ≤ 100000 := by omega
      have hacc : acc.size ≤ 400100000 := by
        have := Nat.mul_le_mul_left (4000 + 1) hmin
        omega
      have h47 : (⟨#[47]⟩ : ByteArray).size = 1 := rfl
      have e47 : (⟨#[47]⟩ : ByteArray).data.toList = [47] := rfl
      have hw : wrap64 ((i : Int) + 1) = ((i + 1 : Nat) : Int) := by unfold wrap64; omega
      rw [if_pos rfl, hw, show okN l[i] = true from hg, Bool.true_and]
      by_cases h0 : 0 < i
      · have e1 : (acc ++ (⟨#[47]⟩ : ByteArray)).size = acc.size + 1 := by rw [append_size, h47]
        rw [if_pos (by omega), if_pos (by omega), if_pos (by rw [e1]; omega), ih (i + 1) k _ (by omega) (by rw [append_list, append_list, ha, e47, join_take_succ l i hlt h0]) (by omega)]
      · have hi0 : i = 0 := by omega
        subst hi0
        rw [if_neg (by omega), if_pos (by omega), ih (0 + 1) k _ (by omega) (by
          rw [append_list, ha]
          cases l with
          | nil => simp at hlt
          | cons x r => simp [bl, Lib.join_nil, Lib.join_one]) (by omega)]
theorem ref_key (l : List ByteArray) (hl : l.length ≤ 100000) (hx : ∀ x ∈ l, x.size ≤ 4000) (k : Nat) (hk : l.length + 8100 ≤ k) : usufructref02_Key.f k l = some (keyR l) := by
  unfold usufructref02_Key.f keyR
  have := ref_key_l l hl hx l.length 0 k ⟨#[]⟩ (by omega) rfl hk
  rw [List.drop_zero] at this
  refine this.trans (congrArg some ?_)
  by_cases h : l.all okN = true ∧ 0 < l.length ∧ l.length ≤ 8
  · rw [if_pos h, if_pos ⟨h.2.1, h.2.2, h.1⟩]
  · rw [if_neg h, if_neg (fun q => h ⟨q.2.2, q.1, q.2.1⟩)]

/-! ### the names of a key -/
def cutL (s : ByteArray) : List ByteArray := (spl s.data.toList).map fun x => ⟨x.toArray⟩
theorem bl_cutL (s : ByteArray) : bl (cutL s) = spl s.data.toList := by
  unfold bl cutL
  rw [List.map_map]
  exact List.map_id _
def cutR (s : ByteArray) : List ByteArray × Bool := if (keyR (cutL s)).2 = true then (cutL s, true) else ([], false)
theorem bl_inj {a b : List ByteArray} (h : bl a = bl b) : a = b := by
  unfold bl at h
  exact (List.map_inj_right (fun x y hxy => bytes_ext hxy)).1 h
theorem splitB_eq (s : ByteArray) : Lib.splitB ⟨#[47]⟩ 0 (Lib.countB s ⟨#[47]⟩) s = cutL s := by
  apply bl_inj
  rw [bl_cutL]
  unfold bl
  rw [Lib.splitB_data]
  exact splitK_spl s.data.toList
theorem spl_piece (l : List UInt8) : ∀ x ∈ spl l, x.length ≤ l.length := by
  induction l with
  | nil => intro x hx; simp [spl] at hx; simp [hx]
  | cons c t ih =>
    intro x hx
    rw [spl] at hx
    split at hx
    · rcases List.mem_cons.1 hx with rfl | hx
      · simp
      · have := ih x hx
        simp only [List.length_cons]
        omega
    · unfold consHead at hx
      split at hx
      · rename_i hn
        exact absurd hn (spl_ne t)
      · rename_i h r hn
        rw [hn] at ih
        rcases List.mem_cons.1 hx with rfl | hx
        · have := ih h (by simp)
          simp only [List.length_cons]
          omega
        · have := ih x (by simp [hx])
          simp only [List.length_cons]
          omega
theorem cutL_size (s : ByteArray) (n : Nat) (h : s.size ≤ n) : ∀ x ∈ cutL s, x.size ≤ n := by
  intro x hx
  obtain ⟨y, hy, rfl⟩ := List.mem_map.1 hx
  have := spl_piece _ y hy
  rw [drop_size] at this
  rw [Lib.size_eq]
  show y.length ≤ n
  omega
theorem cutL_length (s : ByteArray) : (cutL s).length = s.data.toList.count 47 + 1 := by
  unfold cutL
  rw [List.length_map, spl_length]
theorem cut_f (s : ByteArray) (hs : s.size ≤ 2000) (k : Nat) (hk : 2010 ≤ k) : label_Cut.f k s = some (cutR s) := by
  have hc : strings_Count.f s ⟨#[47]⟩ = some ((s.data.toList.count 47 : Nat) : Int) := rfl
  have hle : s.data.toList.count 47 ≤ 2000 := by
    have := List.count_le_length (a := (47 : UInt8)) (l := s.data.toList)
    rw [drop_size] at this
    omega
  have hsp : strings_Split.f s ⟨#[47]⟩ = some (cutL s) := by
    unfold strings_Split.f
    rw [if_pos ⟨by omega, Nat.le_refl 1⟩, splitB_eq]
  have hkey := key_f (cutL s) (by rw [cutL_length]; omega) (cutL_size s 4000 (by omega)) k (by rw [cutL_length]; omega)
  unfold label_Cut.f cutR
  rw [hc, Option.bind_some]
  by_cases h8 : s.data.toList.count 47 ≥ 8
  · rw [if_pos (by omega)]
    have hk8 : keyR (cutL s) = (⟨#[]⟩, false) := if_neg (by rw [cutL_length]; omega)
    rw [hk8]
    rfl
  · rw [if_neg (by omega), hsp, Option.bind_some, hkey, Option.bind_some]
    split <;> rfl
theorem bt_list (s : ByteArray) (p : Nat) (h : p < s.size) : bt s (p : Int) = ((s.data.toList[p]'(by rw [drop_size]; exact h)).toNat : Int) := by
  rw [bt_getD s _ (by rw [Int.toNat_natCast]; exact h), Int.toNat_natCast, List.getD_eq_getElem?_getD, List.getElem?_eq_getElem (by rw [drop_size]; exact h), Option.getD_some]
theorem ref_cut_byte (k : Nat) (s : ByteArray) (l : List ByteArray) (w : ByteArray) (i : Int) (h0 : 0 ≤ i) (hi : i < (s.size : Int)) (hs : s.size ≤ 2000) (hw : w.size ≤ 2000) (he : (s.extract i.toNat (i + 1).toNat).size ≤ 1) (hb : ¬ bt s i = 47) :
    usufructref02_Cut.l0 (k + 1) s l w i = usufructref02_Cut.l0 k s l (w ++ s.extract i.toNat (i + 1).toNat) (i + 1) := by
  have ew : wrap64 (i + 1) = i + 1 := atwr64 (by omega) (by omega)
  rw [usufructref02_Cut.l0, ew]
  generalize s.extract i.toNat (i + 1).toNat = E at *
  rw [if_pos hi, if_pos h0, if_neg hb, if_pos (by omega), if_pos (by omega), if_pos (by omega)]
theorem ref_cut_stroke (k : Nat) (s : ByteArray) (l : List ByteArray) (w : ByteArray) (i : Int) (h0 : 0 ≤ i) (hi : i < (s.size : Int)) (hs : s.size ≤ 2000) (hl : l.length ≤ 2000) (hb : bt s i = 47) :
    usufructref02_Cut.l0 (k + 1) s l w i = usufructref02_Cut.l0 k s (l ++ [w]) (⟨#[]⟩ : ByteArray) (i + 1) := by
  have ew : wrap64 (i + 1) = i + 1 := atwr64 (by omega) (by omega)
  rw [usufructref02_Cut.l0, ew, if_pos hi, if_pos h0, if_pos hb, if_pos (by omega)]
theorem ref_cut_end (k : Nat) (s : ByteArray) (l : List ByteArray) (w : ByteArray) (i : Int) (hi : ¬ i < (s.size : Int)) (hl : l.length ≤ 2000) :
    usufructref02_Cut.l0 (k + 1) s l w i = (usufructref02_Key.f k (l ++ [w])).bind fun b => if b.2 = true then some (l ++ [w], true) else some ([], false) := by
  rw [usufructref02_Cut.l0, if_neg hi, if_pos (by omega), Option.bind_some]
/-- The piece at work, put ahead of what is left. -/
def preHead (w : List UInt8) : List (List UInt8) → List (List UInt8)
  | [] => [w]
  | h :: r => (w ++ h) :: r
theorem preHead_nil (l : List (List UInt8)) (h : l ≠ []) : preHead [] l = l := by
  cases l with
  | nil => exact absurd rfl h
  | cons a r => rfl
theorem ref_cut_l (s : ByteArray) (hs : s.size ≤ 2000) : ∀ (d p k : Nat) (l : List ByteArray) (w : ByteArray), p + d = s.size → l.length ≤ p → w.size ≤ p → d + 10200 ≤ k →
    (∀ x ∈ l, x.size ≤ 2000) →
    ∃ L : List ByteArray, bl L = bl l ++ preHead w.data.toList (spl (s.data.toList.drop p)) ∧ L.length ≤ 2001 ∧ (∀ x ∈ L, x.size ≤ 2000) ∧ usufructref02_Cut.l0 k s l w (p : Int) = some (if (keyR L).2 = true then (L, true) else ([], false)) := by
  intro d
  induction d with
  | zero =>
    intro p k l w hp hl hw hk hx
    obtain ⟨k, rfl⟩ : ∃ q, k = q + 1 := ⟨k - 1, by omega⟩
    have hx2 : ∀ x ∈ l ++ [w], x.size ≤ 2000 := by
      intro x h
      rcases List.mem_append.1 h with h | h
      · exact hx x h
      · rw [List.mem_singleton.1 h]; omega
    refine ⟨l ++ [w], ?_, by simp; omega, hx2, ?_⟩
    · rw [List.drop_of_length_le (by rw [drop_size]; omega)]
      simp [bl, spl, preHead]
    · rw [ref_cut_end k s l w _ (by omega) (by omega), ref_key (l ++ [w]) (by simp; omega) (fun x h => by have := hx2 x h; omega) k (by simp; omega), Option.bind_some]
      split <;> rfl
  | succ d ih =>
    intro p k l w hp hl hw hk hx
    obtain ⟨k, rfl⟩ : ∃ q, k = q + 1 := ⟨k - 1, by omega⟩
    have hlt : p < s.size := by omega
    have hlt2 : p < s.data.toList.length := by rw [drop_size]; exact hlt
    have hb := bt_list s p hlt
    have hd := List.drop_eq_getElem_cons hlt2
    by_cases h47 : s.data.toList[p] = 47
    · have hb47 : bt s (p : Int) = 47 := by rw [hb, h47]; rfl
      obtain ⟨L, h1, h2, h3, h4⟩ := ih (p + 1) k (l ++ [w]) ⟨#[]⟩ (by omega) (by simp; omega) (by show 0 ≤ _; omega) (by omega) (by
        intro x h
        rcases List.mem_append.1 h with h | h
        · exact hx x h
        · rw [List.mem_singleton.1 h]; omega)
      refine ⟨L, ?_, h2, h3, ?_⟩
      · rw [h1, hd, spl, if_pos h47]
        have e : (⟨#[]⟩ : ByteArray).data.toList = [] := rfl
        rw [e, preHead_nil _ (spl_ne _)]
        simp [bl, preHead]
      · rw [ref_cut_stroke k s l w _ (by omega) (by omega) hs (by omega) hb47]
        exact h4
    · have hbn : ¬ bt s (p : Int) = 47 := by
        rw [hb]
        intro e
        exact h47 (UInt8.toNat_inj.1 (by show _ = 47; omega))
      have hex := ext_size s p 1 (by omega)
      have hex2 : (s.extract ((p : Nat) : Int).toNat (((p : Nat) : Int) + 1).toNat).data.toList = (s.data.toList.drop p).take 1 := hex
      have hes : (s.extract ((p : Nat) : Int).toNat (((p : Nat) : Int) + 1).toNat).size = 1 := by
        rw [Lib.size_eq, hex2, List.length_take, List.length_drop, drop_size]
        omega
      have hstep := ref_cut_byte k s l w (p : Int) (by omega) (by omega) hs (by omega) (by omega) hbn
      generalize s.extract ((p : Nat) : Int).toNat (((p : Nat) : Int) + 1).toNat = E at hex2 hes hstep
      obtain ⟨L, h1, h2, h3, h4⟩ := ih (p + 1) k l (w ++ E) (by omega) (by omega) (by rw [append_size, hes]; omega) (by omega) hx
      refine ⟨L, ?_, h2, h3, ?_⟩
      · rw [h1, hd, spl, if_neg h47, append_list, hex2, hd]
        simp only [List.take_succ_cons, List.take_zero]
        have hne := spl_ne (s.data.toList.drop (p + 1))
        generalize spl (s.data.toList.drop (p + 1)) = Q at hne ⊢
        cases Q with
        | nil => exact absurd rfl hne
        | cons q r => simp [consHead, preHead]
      · rw [hstep]
        exact h4
theorem ref_cut (s : ByteArray) (hs : s.size ≤ 2000) (k : Nat) (hk : 12300 ≤ k) : usufructref02_Cut.f k s = some (cutR s) := by
  unfold usufructref02_Cut.f
  obtain ⟨L, h1, h2, h3, h4⟩ := ref_cut_l s hs s.size 0 k [] ⟨#[]⟩ (by omega) (by simp) (by show 0 ≤ _; omega) (by omega) (fun x h => by cases h)
  have e : L = cutL s := by
    apply bl_inj
    rw [h1, bl_cutL]
    have e2 : (⟨#[]⟩ : ByteArray).data.toList = [] := rfl
    rw [e2, preHead_nil _ (spl_ne _)]
    simp [bl]
  rw [e] at h4
  exact h4
/-- What was made is cut as it was. -/
theorem cut_key (l : List ByteArray) (h : (keyR l).2 = true) : cutR (keyR l).1 = (l, true) ∧ (keyR l).1.size ≤ 2000 ∨ ∃ x ∈ l, 100 < x.size := by
  by_cases hx : ∃ x ∈ l, 100 < x.size
  · exact .inr hx
  · left
    have hx : ∀ x ∈ l, x.size ≤ 100 := fun x hm => by
      rcases Nat.lt_or_ge 100 x.size with h | h
      · exact absurd ⟨x, hm, h⟩ hx
      · exact h
    have hk := h
    unfold keyR at hk
    by_cases hc : 0 < l.length ∧ l.length ≤ 8 ∧ l.all okN = true
    · have e : keyR l = (⟨(Lib.join (bl l) [47]).toArray⟩, true) := if_pos hc
      have hcut : cutL (keyR l).1 = l := by
        apply bl_inj
        rw [bl_cutL, e]
        refine spl_join (bl l) (by intro e; have := congrArg List.length e; unfold bl at this; rw [List.length_map, List.length_nil] at this; omega) ?_
        intro y hy
        obtain ⟨x, hxm, rfl⟩ := List.mem_map.1 hy
        exact Utf.good_no_stroke _ (List.all_eq_true.1 hc.2.2 x hxm)
      refine ⟨?_, ?_⟩
      · unfold cutR
        rw [hcut, h, if_pos rfl]
      · have := join_len l 100 hx
        rw [e, Lib.size_eq]
        show (Lib.join (bl l) [47]).length ≤ 2000
        have h8 := Nat.mul_le_mul_left (100 + 1) hc.2.1
        omega
    · rw [if_neg hc] at hk
      cases hk

/-! ### the law -/
theorem same_l2 (a : List ByteArray) (ha : a.length ≤ 5000) : ∀ (d i k : Nat), i + d = a.length → d + 1 ≤ k → usufructlaw02_LabelKeys.l2 k a a (i : Int) = some true := by
  intro d
  induction d with
  | zero =>
    intro i k hi hk
    obtain ⟨k, rfl⟩ : ∃ q, k = q + 1 := ⟨k - 1, by omega⟩
    rw [usufructlaw02_LabelKeys.l2, if_neg (by omega)]
  | succ d ih =>
    intro i k hi hk
    obtain ⟨k, rfl⟩ : ∃ q, k = q + 1 := ⟨k - 1, by omega⟩
    rw [usufructlaw02_LabelKeys.l2, if_pos (by omega), if_pos (by omega), if_pos (by omega), if_pos rfl, show wrap64 ((i : Int) + 1) = ((i + 1 : Nat) : Int) by unfold wrap64; omega]
    exact ih (i + 1) k (by omega) (by omega)
theorem keys_j5 (s : ByteArray) (hs : s.size ≤ 2000) (k : Nat) (hk : 20000 ≤ k) : usufructlaw02_LabelKeys.j5 k s = some true := by
  obtain ⟨k, rfl⟩ : ∃ q, k = q + 1 + 1 + 1 := ⟨k - 3, by omega⟩
  have hlen : (cutR s).1.length ≤ 5000 := by
    have := List.count_le_length (a := (47 : UInt8)) (l := s.data.toList)
    rw [drop_size] at this
    have h2 := cutL_length s
    unfold cutR
    split
    · show (cutL s).length ≤ 5000
      omega
    · simp
  rw [usufructlaw02_LabelKeys.j5, cut_f s hs _ (by omega), Option.bind_some, ref_cut s hs _ (by omega), Option.bind_some, if_neg (by simp), usufructlaw02_LabelKeys.j6, if_neg (by simp), show (0 : Int) = ((0 : Nat) : Int) from rfl]
  exact same_l2 _ hlen (cutR s).1.length 0 _ (by omega) (by omega)
theorem keys_l1 (l : List ByteArray) (s : ByteArray) (hs : s.size ≤ 2000) (hl : l.length ≤ 12) : ∀ (d i k : Nat), i + d = l.length → d + 20001 ≤ k → usufructlaw02_LabelKeys.l1 k l s l (i : Int) = some true := by
  intro d
  induction d with
  | zero =>
    intro i k hi hk
    obtain ⟨k, rfl⟩ : ∃ q, k = q + 1 := ⟨k - 1, by omega⟩
    rw [usufructlaw02_LabelKeys.l1, if_neg (by omega)]
    exact keys_j5 s hs k (by omega)
  | succ d ih =>
    intro i k hi hk
    obtain ⟨k, rfl⟩ : ∃ q, k = q + 1 := ⟨k - 1, by omega⟩
    rw [usufructlaw02_LabelKeys.l1, if_pos (by omega), if_pos (by omega), if_pos (by omega), if_pos rfl, show wrap64 ((i : Int) + 1) = ((i + 1 : Nat) : Int) by unfold wrap64; omega]
    exact ih (i + 1) k (by omega) (by omega)
theorem keys_l0 (l : List ByteArray) (s : ByteArray) (hs : s.size ≤ 300) (hl : l.length ≤ 12) : ∀ (d i k : Nat), i + d = l.length → d + 30000 ≤ k → (∀ j : Nat, j < i → ∀ h : j < l.length, l[j].size ≤ 100) → usufructlaw02_LabelKeys.l0 k l s (i : Int) = some true := by
  intro d
  induction d with
  | zero =>
    intro i k hi hk hx0
    have hx : ∀ x ∈ l, x.size ≤ 100 := by
      intro x hm
      obtain ⟨j, hj, rfl⟩ := List.mem_iff_getElem.1 hm
      exact hx0 j (by omega) hj
    obtain ⟨k, rfl⟩ : ∃ q, k = q + 1 + 1 + 1 := ⟨k - 3, by omega⟩
    have hx4 : ∀ x ∈ l, x.size ≤ 4000 := fun x hm => by have := hx x hm; omega
    rw [usufructlaw02_LabelKeys.l0, if_neg (by omega), key_f l (by omega) hx4 _ (by omega), Option.bind_some, ref_key l (by omega) hx4 _ (by omega), Option.bind_some, if_pos rfl, usufructlaw02_LabelKeys.j2, if_neg (by simp)]
    cases hok : (keyR l).2 with
    | false =>
      rw [if_neg (by decide)]
      exact keys_j5 s (by omega) _ (by omega)
    | true =>
      rcases cut_key l hok with ⟨hc, hsz⟩ | ⟨x, hm, h⟩
      · rw [if_pos rfl, cut_f _ hsz _ (by omega), hc, Option.bind_some, if_pos rfl]
        dsimp only
        rw [usufructlaw02_LabelKeys.j3, if_neg (by simp), show (0 : Int) = ((0 : Nat) : Int) from rfl]
        exact keys_l1 l s (by omega) hl l.length 0 k (by omega) (by omega)
      · have := hx x hm
        omega
  | succ d ih =>
    intro i k hi hk hx0
    obtain ⟨k, rfl⟩ : ∃ q, k = q + 1 := ⟨k - 1, by omega⟩
    have hlt : i < l.length := by omega
    rw [usufructlaw02_LabelKeys.l0, if_pos (by omega), if_pos (by omega), rd_mem l i hlt]
    by_cases h : (l[i].size : Int) > 100
    · rw [if_pos h]
    · rw [if_neg h, show wrap64 ((i : Int) + 1) = ((i + 1 : Nat) : Int) by unfold wrap64; omega]
      refine ih (i + 1) k (by omega) (by omega) (fun j hj hjl => ?_)
      by_cases hji : j = i
      · subst hji
        omega
      · exact hx0 j (by omega) hjl
theorem keys_pure (l : List ByteArray) (s : ByteArray) : usufructlaw02_LabelKeys.f 40000 l s = some true := by
  unfold usufructlaw02_LabelKeys.f
  rw [show usufructlaw02_awake.f = some true from rfl, Option.bind_some, if_pos rfl]
  have hj : ∀ x : Bool, (x = false → l.length ≤ 12 ∧ s.size ≤ 300) → usufructlaw02_LabelKeys.j0 40000 l s x = some true := by
    intro x hx
    rw [show (40000 : Nat) = 39999 + 1 from rfl, usufructlaw02_LabelKeys.j0]
    cases x with
    | true => rw [if_pos rfl]
    | false =>
      obtain ⟨h1, h2⟩ := hx rfl
      rw [if_neg (by decide), show (0 : Int) = ((0 : Nat) : Int) from rfl]
      exact keys_l0 l s h2 h1 l.length 0 _ (by omega) (by omega) (fun j hj => by omega)
  split
  · exact hj true (fun h => by cases h)
  · exact hj _ (fun h => by have := of_decide_eq_false h; omega)
theorem LabelKeys.walk (w : World) (A0 : Option Addr) (c0 : Nat) (l0 : List ByteArray) (a1 : ByteArray)
    (hr0 : Kd.C Kd.string w A0 l0.length l0) (hc0 : l0.length ≤ c0) (hm0 : c0 ≤ maxLen) (ok0 : ∀ x ∈ l0, (fun x : ByteArray => x.size ≤ maxLen) x) (w1 : a1.size ≤ maxLen) (y1 : a1.size ≤ 140737488351232) (hTab_ : Tabs_ w) :
    Calls Tryd.prog 4 #[.slice A0 l0.length c0, .string a1] w fun e w' => e = .returned (.bool true) ∧ Below w.heap.size w w' :=
  usufructlaw02_LabelKeys.calls 40000 A0 c0 l0 a1 true w hr0 hc0 hTab_ (keys_pure l0 a1)
end Go.Proofs.YtkpmmikpdjhliaaDoor.Walk
