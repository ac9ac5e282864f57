/- Texts as rows of runes: plain Lean over the model's own decoder. -/
import Derived.Lib.MapLaws
import Derived.Lib.ValidLaws
import Derived.Lib.RuneCount
import Derived.Lib.RuneBytes
import Derived.Lib.TrimUEq
import Derived.Lib.TrimAscii
namespace Go.Proofs.YtjefllmaffialaaDoor.Utf
open Go.Lib
set_option linter.unusedVariables false
set_option linter.unusedSimpArgs false

/-- What may stand in a name, and a letter. -/
def letterP (c : Int) : Bool := decide ((97 ≤ c ∧ c ≤ 122) ∨ (65 ≤ c ∧ c ≤ 90) ∨ 128 ≤ c)
def mayP (c : Int) : Bool := decide ((97 ≤ c ∧ c ≤ 122) ∨ (65 ≤ c ∧ c ≤ 90) ∨ 128 ≤ c ∨ (48 ≤ c ∧ c ≤ 57) ∨ c = 45 ∨ c = 95)
/-- A byte that begins no rune. -/
def Bad (l : List UInt8) : Prop := (decodeL l).1 = 65533 ∧ (decodeL l).2 = 1
instance (l : List UInt8) : Decidable (Bad l) := inferInstanceAs (Decidable (_ ∧ _))
def first (l : List UInt8) : Option Nat := if Bad l then none else some (decodeL l).1
def runesGo : Nat → List UInt8 → List (Option Nat)
  | 0, _ => []
  | n + 1, l => if l = [] then [] else first l :: runesGo n (l.drop (decodeL l).2)
/-- A text's runes; none: a byte that is none's. -/
def runes (l : List UInt8) : List (Option Nat) := runesGo l.length l

theorem runesGo_nil : ∀ n, runesGo n [] = []
  | 0 => rfl
  | n + 1 => by simp [runesGo]
theorem runesGo_fuel : ∀ (n m : Nat) (l : List UInt8), l.length ≤ n → l.length ≤ m → runesGo n l = runesGo m l
  | 0, m, l, h, _ => by
    have : l = [] := List.eq_nil_of_length_eq_zero (by omega)
    subst this
    rw [runesGo_nil, runesGo_nil]
  | n + 1, 0, l, _, h => by
    have : l = [] := List.eq_nil_of_length_eq_zero (by omega)
    subst this
    rw [runesGo_nil, runesGo_nil]
  | n + 1, m + 1, l, h, h' => by
    unfold runesGo
    by_cases hne : l = []
    · simp [hne]
    · have hw := decodeL_width l
      have hl : 0 < l.length := List.length_pos_iff.2 hne
      rw [if_neg hne, if_neg hne, runesGo_fuel n m (l.drop (decodeL l).2) (by rw [List.length_drop]; omega) (by rw [List.length_drop]; omega)]
theorem runes_nil : runes [] = [] := rfl
theorem runes_step (l : List UInt8) (hne : l ≠ []) : runes l = first l :: runes (l.drop (decodeL l).2) := by
  have hw := decodeL_width l
  have hl : 0 < l.length := List.length_pos_iff.2 hne
  obtain ⟨n, hn⟩ : ∃ n, l.length = n + 1 := ⟨l.length - 1, by omega⟩
  unfold runes
  rw [hn]
  show (if l = [] then [] else _) = _
  rw [if_neg hne, runesGo_fuel n (l.drop (decodeL l).2).length _ (by rw [List.length_drop]; omega) (Nat.le_refl _)]
/-- An induction over a text's runes. -/
theorem runes_ind {p : List UInt8 → Prop} (h0 : p []) (h1 : ∀ l, l ≠ [] → p (l.drop (decodeL l).2) → p l) : ∀ l, p l := by
  have : ∀ n l, l.length ≤ n → p l := by
    intro n
    induction n with
    | zero => intro l hl; rw [List.eq_nil_of_length_eq_zero (by omega : l.length = 0)]; exact h0
    | succ n ih =>
      intro l hl
      by_cases hne : l = []
      · rw [hne]; exact h0
      · have hw := decodeL_width l
        have hp : 0 < l.length := List.length_pos_iff.2 hne
        exact h1 l hne (ih _ (by rw [List.length_drop]; omega))
  exact fun l => this l.length l (Nat.le_refl _)
theorem runes_length_le (l : List UInt8) : (runes l).length ≤ l.length := by
  refine runes_ind (p := fun l => (runes l).length ≤ l.length) (Nat.le_refl _) ?_ l
  intro l hne ih
  have hw := decodeL_width l
  have hp : 0 < l.length := List.length_pos_iff.2 hne
  rw [runes_step l hne]
  rw [List.length_drop] at ih
  simp only [List.length_cons]
  omega
theorem validD_runes (l : List UInt8) : validD l = (runes l).all Option.isSome := by
  refine runes_ind (p := fun l => validD l = (runes l).all Option.isSome) rfl ?_ l
  intro l hne ih
  rw [validD_step l hne, runes_step l hne]
  by_cases hb : Bad l
  · rw [if_pos (show (decodeL l).1 = 65533 ∧ (decodeL l).2 = 1 from hb)]
    simp [first, hb]
  · rw [if_neg (show ¬ ((decodeL l).1 = 65533 ∧ (decodeL l).2 = 1) from hb), ih]
    simp [first, hb]

/-- What a decoder gives is a rune. -/
theorem decodeN_valid (n b0 b1 b2 b3 : Nat) : (decodeN n b0 b1 b2 b3).1 < 55296 ∨ (57343 < (decodeN n b0 b1 b2 b3).1 ∧ (decodeN n b0 b1 b2 b3).1 ≤ 1114111) := by
  unfold decodeN
  repeat' split
  all_goals first | (right; constructor <;> decide) | (simp only; omega)
theorem first_valid (l : List UInt8) (c : Nat) (h : first l = some c) : c < 55296 ∨ (57343 < c ∧ c ≤ 1114111) := by
  unfold first at h
  split at h
  · cases h
  · cases h
    rw [decodeL_N]
    exact decodeN_valid _ _ _ _ _
theorem runes_valid (l : List UInt8) : ∀ c, some c ∈ runes l → c < 55296 ∨ (57343 < c ∧ c ≤ 1114111) := by
  refine runes_ind (p := fun l => ∀ c, some c ∈ runes l → c < 55296 ∨ (57343 < c ∧ c ≤ 1114111)) (fun c h => by cases h) ?_ l
  intro l hne ih c h
  rw [runes_step l hne] at h
  rcases List.mem_cons.1 h with h | h
  · exact first_valid l c h.symm
  · exact ih c h

/-- A rune's bytes, and what stands behind them. -/
theorem byte_of (n : Nat) (h : n < 256) : (n : Int).toNat.toUInt8.toNat = n := by
  simp [Nat.toUInt8, UInt8.toNat_ofNat, Nat.mod_eq_of_lt h]
theorem byte_nat (n : Nat) (h : n < 256) : n.toUInt8.toNat = n := by
  simp [Nat.toUInt8, UInt8.toNat_ofNat, Nat.mod_eq_of_lt h]
theorem decode_encode (c : Nat) (t : List UInt8) (hc : c < 55296 ∨ (57343 < c ∧ c ≤ 1114111)) : decodeL (encodeRune c ++ t) = (c, (encodeRune c).length) := by
  rw [decodeL_N]
  by_cases h1 : c ≤ 127
  · have e : encodeRune (c : Int) = [c.toUInt8] := by unfold encodeRune; rw [encodeRuneZ_one (by omega) (by omega)]; simp
    rw [e]
    have b : (c.toUInt8).toNat = c := byte_nat c (by omega)
    simp only [List.cons_append, List.nil_append, List.getD_cons_zero, List.length_cons, List.length_nil, b]
    exact decodeN_ascii _ _ _ _ _ (by omega)
  · by_cases h2 : c ≤ 2047
    · have e : encodeRune (c : Int) = [(192 + c / 64).toUInt8, (128 + c % 64).toUInt8] := by
        unfold encodeRune; rw [encodeRuneZ_two (by omega) (by omega)]
        simp only [List.map_cons, List.map_nil]
        rw [show (192 + (c : Int) / 64).toNat = 192 + c / 64 by omega, show (128 + (c : Int) % 64).toNat = 128 + c % 64 by omega]
      rw [e]
      have b0 : ((192 + c / 64).toUInt8).toNat = 192 + c / 64 := byte_nat (192 + c / 64) (by omega)
      have b1 : ((128 + c % 64).toUInt8).toNat = 128 + c % 64 := byte_nat (128 + c % 64) (by omega)
      simp only [List.cons_append, List.nil_append, List.getD_cons_zero, List.getD_cons_succ, List.length_cons, List.length_nil, b0, b1]
      unfold decodeN
      rw [if_neg (by omega), if_pos (by omega), if_pos (by omega)]
      exact Prod.ext (by simp only; omega) rfl
    · by_cases h3 : c ≤ 65535
      · have e : encodeRune (c : Int) = [(224 + c / 4096).toUInt8, (128 + c / 64 % 64).toUInt8, (128 + c % 64).toUInt8] := by
          unfold encodeRune; rw [encodeRuneZ_three (by omega)]
          simp only [List.map_cons, List.map_nil]
          rw [show (224 + (c : Int) / 4096).toNat = 224 + c / 4096 by omega, show (128 + (c : Int) / 64 % 64).toNat = 128 + c / 64 % 64 by omega, show (128 + (c : Int) % 64).toNat = 128 + c % 64 by omega]
        rw [e]
        have b0 : ((224 + c / 4096).toUInt8).toNat = 224 + c / 4096 := byte_nat (224 + c / 4096) (by omega)
        have b1 : ((128 + c / 64 % 64).toUInt8).toNat = 128 + c / 64 % 64 := byte_nat (128 + c / 64 % 64) (by omega)
        have b2 : ((128 + c % 64).toUInt8).toNat = 128 + c % 64 := byte_nat (128 + c % 64) (by omega)
        simp only [List.cons_append, List.nil_append, List.getD_cons_zero, List.getD_cons_succ, List.length_cons, List.length_nil, b0, b1, b2]
        unfold decodeN
        rw [if_neg (by omega), if_neg (by omega), if_pos (by omega), if_pos (by omega)]
        exact Prod.ext (by simp only; omega) rfl
      · have e : encodeRune (c : Int) = [(240 + c / 262144).toUInt8, (128 + c / 4096 % 64).toUInt8, (128 + c / 64 % 64).toUInt8, (128 + c % 64).toUInt8] := by
          unfold encodeRune; rw [encodeRuneZ_four (by omega) (by omega)]
          simp only [List.map_cons, List.map_nil]
          rw [show (240 + (c : Int) / 262144).toNat = 240 + c / 262144 by omega, show (128 + (c : Int) / 4096 % 64).toNat = 128 + c / 4096 % 64 by omega, show (128 + (c : Int) / 64 % 64).toNat = 128 + c / 64 % 64 by omega, show (128 + (c : Int) % 64).toNat = 128 + c % 64 by omega]
        rw [e]
        have b0 : ((240 + c / 262144).toUInt8).toNat = 240 + c / 262144 := byte_nat (240 + c / 262144) (by omega)
        have b1 : ((128 + c / 4096 % 64).toUInt8).toNat = 128 + c / 4096 % 64 := byte_nat (128 + c / 4096 % 64) (by omega)
        have b2 : ((128 + c / 64 % 64).toUInt8).toNat = 128 + c / 64 % 64 := byte_nat (128 + c / 64 % 64) (by omega)
        have b3 : ((128 + c % 64).toUInt8).toNat = 128 + c % 64 := byte_nat (128 + c % 64) (by omega)
        simp only [List.cons_append, List.nil_append, List.getD_cons_zero, List.getD_cons_succ, List.length_cons, List.length_nil, b0, b1, b2, b3]
        unfold decodeN
        rw [if_neg (by omega), if_neg (by omega), if_neg (by omega), if_pos (by omega), if_pos (by omega)]
        exact Prod.ext (by simp only; omega) rfl
theorem encode_ne (c : Int) : encodeRune c ≠ [] := by
  intro h
  have := encodeRuneZ_length c
  unfold encodeRune at h
  rw [List.map_eq_nil_iff] at h
  rw [h] at this
  simp at this
theorem encode_len (c : Int) : 1 ≤ (encodeRune c).length ∧ (encodeRune c).length ≤ 4 := by
  have := encodeRuneZ_length c
  unfold encodeRune
  rw [List.length_map]
  exact this
theorem runes_encode (c : Nat) (t : List UInt8) (hc : c < 55296 ∨ (57343 < c ∧ c ≤ 1114111)) : runes (encodeRune c ++ t) = some c :: runes t := by
  have hne : encodeRune (c : Int) ++ t ≠ [] := fun h => encode_ne c (List.append_eq_nil_iff.1 h).1
  have hd := decode_encode c t hc
  have hb : ¬ Bad (encodeRune (c : Int) ++ t) := by
    rintro ⟨h1, h2⟩
    rw [hd] at h1 h2
    simp only at h1 h2
    subst h1
    have : (encodeRune ((65533 : Nat) : Int)).length = 3 := by decide
    omega
  rw [runes_step _ hne, first, if_neg hb, hd]
  simp only [List.drop_left]
theorem runes_encodes (t : List UInt8) : ∀ (cs : List Nat), (∀ c ∈ cs, c < 55296 ∨ (57343 < c ∧ c ≤ 1114111)) → runes (cs.flatMap (fun c : Nat => encodeRune (c : Int)) ++ t) = cs.map some ++ runes t
  | [], _ => by simp
  | c :: cs, h => by
    rw [List.flatMap_cons, List.append_assoc, runes_encode c _ (h c (by simp)), runes_encodes t cs (fun d hd => h d (by simp [hd]))]
    simp
/-- A text all of whose bytes are runes' is its runes' bytes. -/
theorem encodes_runes (l : List UInt8) : (runes l).all Option.isSome = true → (runes l).flatMap (fun o => encodeRune ((o.getD 0 : Nat) : Int)) = l := by
  refine runes_ind (p := fun l => (runes l).all Option.isSome = true → (runes l).flatMap (fun o => encodeRune ((o.getD 0 : Nat) : Int)) = l) (fun _ => rfl) ?_ l
  intro l hne ih h
  rw [runes_step l hne] at h ⊢
  rw [List.all_cons, Bool.and_eq_true] at h
  rw [List.flatMap_cons, ih h.2]
  have hb : ¬ Bad l := fun hb => by
    have := h.1
    simp [first, hb] at this
  rw [first, if_neg hb, Option.getD_some, encode_decode l hne hb, List.take_append_drop]

/-! ### the masked text, and names -/
def mo (o : Option Nat) : Nat := match o with
  | some c => if mayP c = true then c else 95
  | none => 95
theorem mo_may (o : Option Nat) : mayP (mo o : Int) = true := by
  unfold mo
  split
  · split
    · assumption
    · decide
  · decide
theorem mo_some_mo (o : Option Nat) : mo (some (mo o)) = mo o := by
  show (if mayP (mo o : Int) = true then mo o else 95) = mo o
  rw [if_pos (mo_may o)]
def maskD (l : List UInt8) : List UInt8 := (runes l).flatMap fun o => encodeRune (mo o : Int)
def okRune (o : Option Nat) : Bool := match o with
  | some c => mayP c
  | none => false
def goodD (l : List UInt8) : Bool := (runes l).all okRune && (match (runes l).head? with
  | some (some c) => letterP c
  | _ => false) && decide ((runes l).length ≤ 64)
theorem mo_valid (l : List UInt8) : ∀ o ∈ runes l, mo o < 55296 ∨ (57343 < mo o ∧ mo o ≤ 1114111) := by
  intro o ho
  unfold mo
  split
  · rename_i c
    split
    · exact runes_valid l c ho
    · omega
  · omega
theorem maskD_eq (l : List UInt8) : maskD l = ((runes l).map mo).flatMap (fun c : Nat => encodeRune (c : Int)) := by
  unfold maskD
  rw [List.flatMap_map]
theorem runes_mask (l t : List UInt8) : runes (maskD l ++ t) = (runes l).map (fun o => some (mo o)) ++ runes t := by
  rw [maskD_eq, runes_encodes t _ (by
    intro c hc
    obtain ⟨o, ho, rfl⟩ := List.mem_map.1 hc
    exact mo_valid l o ho), List.map_map]
  rfl
theorem runes_mask0 (l : List UInt8) : runes (maskD l) = (runes l).map (fun o => some (mo o)) := by
  have := runes_mask l []
  simpa [runes_nil] using this
theorem mask_count (l : List UInt8) : (runes (maskD l)).length = (runes l).length := by rw [runes_mask0, List.length_map]
theorem mask_mask (l : List UInt8) : maskD (maskD l) = maskD l := by
  rw [maskD, runes_mask0, List.flatMap_map, maskD]
  congr 1
  funext o
  rw [mo_some_mo]
theorem mask_join (a b : List UInt8) : maskD (maskD a ++ maskD b) = maskD a ++ maskD b := by
  rw [maskD, runes_mask, runes_mask0, List.flatMap_append, List.flatMap_map, List.flatMap_map]
  simp only [mo_some_mo]
  rfl
theorem mask_join_count (a b : List UInt8) : (runes (maskD a ++ maskD b)).length = (runes a).length + (runes b).length := by
  rw [runes_mask, runes_mask0, List.length_append, List.length_map, List.length_map]
theorem all_ok_some (l : List UInt8) (h : (runes l).all okRune = true) : (runes l).all Option.isSome = true := by
  rw [List.all_eq_true] at h ⊢
  intro o ho
  have := h o ho
  cases o with
  | none => cases this
  | some c => rfl
theorem mo_ok (c : Nat) (h : okRune (some c) = true) : mo (some c) = c := by
  have h2 : mayP (c : Int) = true := h
  unfold mo
  simp only [h2, if_true]
theorem flat_ok (E : Nat → List UInt8) : ∀ (r : List (Option Nat)), (∀ o ∈ r, okRune o = true) → (r.flatMap fun o => E (mo o)) = r.flatMap fun o => E (o.getD 0)
  | [], _ => rfl
  | o :: r, hr => by
    rw [List.flatMap_cons, List.flatMap_cons, flat_ok E r (fun x hx => hr x (by simp [hx]))]
    have ho := hr o (by simp)
    cases o with
    | none => cases ho
    | some c => rw [mo_ok c ho, Option.getD_some]
theorem mask_good (l : List UInt8) (h : (runes l).all okRune = true) : maskD l = l :=
  (flat_ok (fun c => encodeRune (c : Int)) (runes l) (List.all_eq_true.1 h)).trans (encodes_runes l (all_ok_some l h))
theorem good_ok (l : List UInt8) (h : goodD l = true) : (runes l).all okRune = true := by
  unfold goodD at h
  rw [Bool.and_eq_true, Bool.and_eq_true] at h
  exact h.1.1
theorem good_a_mask (l : List UInt8) : goodD (97 :: maskD l) = decide ((runes l).length < 64) := by
  have e : runes (97 :: maskD l) = some 97 :: (runes l).map (fun o => some (mo o)) := by
    have := runes_encode 97 (maskD l) (by omega)
    rw [runes_mask0] at this
    have e97 : encodeRune ((97 : Nat) : Int) = [97] := by unfold encodeRune; rw [encodeRuneZ_one (by omega) (by omega)]; rfl
    rw [e97, List.singleton_append] at this
    exact this
  unfold goodD
  rw [e]
  have h1 : ((some 97 :: (runes l).map (fun o => some (mo o))).all okRune) = true := by
    rw [List.all_eq_true]
    intro o ho
    rcases List.mem_cons.1 ho with rfl | ho
    · show mayP ((97 : Nat) : Int) = true
      unfold mayP
      exact decide_eq_true (by omega)
    · obtain ⟨x, hx, rfl⟩ := List.mem_map.1 ho
      exact mo_may x
  rw [h1]
  simp only [List.head?_cons, List.length_cons, List.length_map, Bool.true_and]
  rw [show letterP ((97 : Nat) : Int) = true from decide_eq_true (by omega), Bool.true_and]
  exact decide_eq_decide.2 ⟨fun h => by omega, fun h => by omega⟩
/-- No name holds a stroke. -/
theorem encode_no_stroke (c : Nat) (hc : c ≠ 47) : (47 : UInt8) ∉ encodeRune (c : Int) := by
  intro hm
  unfold encodeRune at hm
  obtain ⟨x, hx, he⟩ := List.mem_map.1 hm
  have hb := encodeRuneZ_byte c x hx
  have h47 : x = 47 := by
    have h1 : x.toNat.toUInt8.toNat = 47 := by rw [he]; rfl
    have h2 := byte_of x.toNat (by omega)
    rw [Int.toNat_natCast] at h2
    omega
  subst h47
  by_cases h1 : c ≤ 127
  · rw [encodeRuneZ_one (by omega) (by omega)] at hx
    simp at hx
    omega
  · by_cases h2 : c ≤ 2047
    · rw [encodeRuneZ_two (by omega) (by omega)] at hx
      simp at hx
      omega
    · by_cases h3 : (2048 ≤ (c : Int) ∧ (c : Int) < 55296) ∨ (57343 < (c : Int) ∧ (c : Int) ≤ 65535)
      · rw [encodeRuneZ_three h3] at hx
        simp at hx
        omega
      · by_cases h4 : (c : Int) ≤ 1114111
        · by_cases h5 : 65536 ≤ (c : Int)
          · rw [encodeRuneZ_four h5 h4] at hx
            simp at hx
            omega
          · rw [encodeRuneZ_bad (by omega)] at hx
            simp at hx
        · rw [encodeRuneZ_bad (by omega)] at hx
          simp at hx
theorem good_no_stroke (l : List UInt8) (h : goodD l = true) : (47 : UInt8) ∉ l := by
  have ha := good_ok l h
  intro hm
  rw [← encodes_runes l (all_ok_some l ha)] at hm
  obtain ⟨o, ho, hx⟩ := List.mem_flatMap.1 hm
  have := List.all_eq_true.1 ha o ho
  cases o with
  | none => cases this
  | some c =>
    refine encode_no_stroke c ?_ hx
    rintro rfl
    exact absurd this (by decide)
theorem good_ne (l : List UInt8) (h : goodD l = true) : l ≠ [] := by
  rintro rfl
  exact absurd h (by decide)
end Go.Proofs.YtjefllmaffialaaDoor.Utf
