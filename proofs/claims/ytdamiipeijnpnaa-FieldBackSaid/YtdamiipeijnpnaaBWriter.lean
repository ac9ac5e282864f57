/- What a writer puts, in plain numbers: the document puts it alike, and a reader takes it back. -/
import Derived.Test.YtdamiipeijnpnaaGWriterText
import Derived.Test.YtdamiipeijnpnaaBRef04
import Derived.Test.YtdamiipeijnpnaaQx6
namespace Go.Proofs.Ytdamiipeijnpnaa.Q
set_option linter.unusedVariables false
set_option linter.unusedSimpArgs false
open Go.RowKit Go.Proofs.YtdamiipeijnpnaaW.PrintWords Go.Proofs.YtdamiipeijnpnaaW.PrintLast Go.Proofs.YtdamiipeijnpnaaW.PrintMore

theorem strOfNums_append (xs ys : List Int) : strOfNums (xs ++ ys) = strOfNums xs ++ strOfNums ys := by
  apply ByteArray.ext
  simp [strOfNums]
theorem strOfNums_bytesOf (s : ByteArray) : strOfNums (bytesOf s) = s := by
  apply ByteArray.ext
  unfold strOfNums bytesOf
  apply Array.ext'
  simp only [List.map_map]
  conv => rhs; rw [← List.map_id s.data.toList]
  apply List.map_congr_left
  intro c _
  simp [Function.comp]
theorem strOfNums_len (xs : List Int) : (strOfNums xs).size = xs.length := by simp [strOfNums, ByteArray.size]
theorem clampN_range (n : Int) : 0 ≤ clampN n ∧ clampN n ≤ 4611686018427387904 := by
  unfold clampN mn mx
  split <;> split <;> omega
theorem nbs8 (m : Int) : nbs m 8 = [m / 256 / 256 / 256 / 256 / 256 / 256 / 256 % 256, m / 256 / 256 / 256 / 256 / 256 / 256 % 256, m / 256 / 256 / 256 / 256 / 256 % 256, m / 256 / 256 / 256 / 256 % 256, m / 256 / 256 / 256 % 256, m / 256 / 256 % 256, m / 256 % 256, m % 256] := by
  have e : ∀ x : Int, IntKind.u8.wrap x = x % 256 := IntKind.wrap_u8
  have h : nbs m 8 = [nb m 7, nb m 6, nb m 5, nb m 4, nb m 3, nb m 2, nb m 1, nb m 0] := rfl
  rw [h]
  have n7 : nb m 7 = m / 72057594037927936 % 256 := by unfold nb; rw [e]; rfl
  have n6 : nb m 6 = m / 281474976710656 % 256 := by unfold nb; rw [e]; rfl
  have n5 : nb m 5 = m / 1099511627776 % 256 := by unfold nb; rw [e]; rfl
  have n4 : nb m 4 = m / 4294967296 % 256 := by unfold nb; rw [e]; rfl
  have n3 : nb m 3 = m / 16777216 % 256 := by unfold nb; rw [e]; rfl
  have n2 : nb m 2 = m / 65536 % 256 := by unfold nb; rw [e]; rfl
  have n1 : nb m 1 = m / 256 % 256 := by unfold nb; rw [e]; rfl
  have n0 : nb m 0 = m / 1 % 256 := by unfold nb; rw [e]; rfl
  rw [n7, n6, n5, n4, n3, n2, n1, n0]
  have a7 : m / 256 / 256 / 256 / 256 / 256 / 256 / 256 = m / 72057594037927936 := by omega
  have a6 : m / 256 / 256 / 256 / 256 / 256 / 256 = m / 281474976710656 := by omega
  have a5 : m / 256 / 256 / 256 / 256 / 256 = m / 1099511627776 := by omega
  have a4 : m / 256 / 256 / 256 / 256 = m / 4294967296 := by omega
  have a3 : m / 256 / 256 / 256 = m / 16777216 := by omega
  have a2 : m / 256 / 256 = m / 65536 := by omega
  rw [a7, a6, a5, a4, a3, a2, Int.ediv_one]
theorem nbs_len (m : Int) (j : Nat) : (nbs m j).length = j := by simp [nbs]
theorem nbs_BB (m : Int) : BB (nbs m 8) := by
  rw [nbs8]
  intro x hx
  simp only [List.mem_cons, List.not_mem_nil, or_false] at hx
  rcases hx with h | h | h | h | h | h | h | h <;> subst h <;> omega
theorem vfold_nbs (m : Int) (h0 : 0 ≤ m) (h1 : m ≤ 4611686018427387904) : vfold (nbs m 8) = m := by
  rw [nbs8, vfold8 _ _ _ _ _ _ _ _ (by omega) (by omega) (by omega) (by omega) (by omega) (by omega) (by omega) (by omega)]
  omega
theorem num_round (k : Nat) (x : Int) (s : ByteArray) (j : Nat) (hj : j < 8) (hs : s.size ≤ 100) (h0 : 0 ≤ x) (h1 : x ≤ 4611686018427387904) :
    usufructref04_Num.l0 (k + 1) x s (j : Int) = usufructref04_Num.l0 k (x / 256) (strOfNums [x % 256] ++ s) ((j + 1 : Nat) : Int) := by
  rw [usufructref04_Num.l0, if_pos (by omega), Option.bind_some]
  have e1 : Int.tmod x 256 % 256 = x % 256 := by rw [Int.tmod_eq_emod_of_nonneg h0]; omega
  have e2 : Int.tdiv x 256 = x / 256 := Int.tdiv_eq_ediv_of_nonneg h0
  have e3 : wrap64 (x / 256) = x / 256 := by unfold wrap64; omega
  have e4 : wrap64 ((j : Int) + 1) = ((j + 1 : Nat) : Int) := by unfold wrap64; omega
  rw [e1, e2, e3, e4, if_pos (by rw [strOfNums_len]; simp; omega)]
theorem ref_num (k : Nat) (n : Int) : usufructref04_Num.f (k + 11) n = some (strOfNums (nbs (clampN n) 8)) := by
  have hm := clampN_range n
  have key : ∀ k m : _, 0 ≤ m → m ≤ 4611686018427387904 → usufructref04_Num.j1 (k + 10) m = some (strOfNums (nbs m 8)) := by
    intro k m h0 h1
    rw [usufructref04_Num.j1]
    have hz : (⟨#[]⟩ : ByteArray).size ≤ 100 := by decide
    have ha : ∀ (c : Int) (s : ByteArray) (q : Nat), s.size ≤ q → (strOfNums [c] ++ s).size ≤ q + 1 := fun c s q h => by
      rw [ByteArray.size_append, strOfNums_len]
      simp
      omega
    have s0 : (⟨#[]⟩ : ByteArray).size ≤ 0 := Nat.le_refl _
    have s1 := ha (m % 256) _ _ s0
    have s2 := ha (m / 256 % 256) _ _ s1
    have s3 := ha (m / 256 / 256 % 256) _ _ s2
    have s4 := ha (m / 256 / 256 / 256 % 256) _ _ s3
    have s5 := ha (m / 256 / 256 / 256 / 256 % 256) _ _ s4
    have s6 := ha (m / 256 / 256 / 256 / 256 / 256 % 256) _ _ s5
    have s7 := ha (m / 256 / 256 / 256 / 256 / 256 / 256 % 256) _ _ s6
    refine (num_round (k + 8) m _ 0 (by omega) (Nat.le_trans s0 (by omega)) (by omega) (by omega)).trans ?_
    refine (num_round (k + 7) _ _ 1 (by omega) (Nat.le_trans s1 (by omega)) (by omega) (by omega)).trans ?_
    refine (num_round (k + 6) _ _ 2 (by omega) (Nat.le_trans s2 (by omega)) (by omega) (by omega)).trans ?_
    refine (num_round (k + 5) _ _ 3 (by omega) (Nat.le_trans s3 (by omega)) (by omega) (by omega)).trans ?_
    refine (num_round (k + 4) _ _ 4 (by omega) (Nat.le_trans s4 (by omega)) (by omega) (by omega)).trans ?_
    refine (num_round (k + 3) _ _ 5 (by omega) (Nat.le_trans s5 (by omega)) (by omega) (by omega)).trans ?_
    refine (num_round (k + 2) _ _ 6 (by omega) (Nat.le_trans s6 (by omega)) (by omega) (by omega)).trans ?_
    refine (num_round (k + 1) _ _ 7 (by omega) (Nat.le_trans s7 (by omega)) (by omega) (by omega)).trans ?_
    rw [usufructref04_Num.l0, if_neg (by omega), nbs8]
    congr 1
  unfold usufructref04_Num.f
  have hj : ∀ x : Int, 0 ≤ x → usufructref04_Num.j0 (k + 11) x = some (strOfNums (nbs (if x > 4611686018427387904 then 4611686018427387904 else x) 8)) := by
    intro x hx
    rw [usufructref04_Num.j0]
    split
    · exact key k _ (by omega) (by omega)
    · exact key k _ (by omega) (by omega)
  by_cases h : n < 0
  · rw [if_pos h, hj 0 (by omega), if_neg (by omega)]
    congr 3
    unfold clampN mn mx
    rw [if_pos h]
    rfl
  · rw [if_neg h, hj n (by omega)]
    congr 3
    unfold clampN mn mx
    rw [if_neg h]
theorem seg_at (p q r : List Int) : ((p ++ q ++ r).take (p.length + q.length)).drop p.length = q := by
  rw [show p.length + q.length = (p ++ q).length by simp, List.take_left' rfl, List.drop_left' rfl]
theorem rd_at (p r : List Int) (x : Int) : rd (p ++ x :: r) (p.length : Int) = x := by
  unfold rd
  rw [Int.toNat_natCast, List.getD_eq_getElem?_getD]
  simp
/-- A number that was put is taken. -/
theorem num_back (p q : List Int) (m : Int) (h0 : 0 ≤ m) (h1 : m ≤ 4611686018427387904) (hl : (p ++ nbs m 8 ++ q).length ≤ 100000) :
    field_Reader_Num.f (p ++ nbs m 8 ++ q) (p.length : Int) 0 0 = some (m, ((p.length + 8 : Nat) : Int), 0, 0) := by
  have hlen : (p ++ nbs m 8 ++ q).length = p.length + 8 + q.length := by simp [nbs_len]; omega
  unfold field_Reader_Num.f
  rw [show okR 0 0 = true from rfl, if_pos rfl, hlen]
  have e1 : wrap64 (((p.length + 8 + q.length : Nat) : Int) - (p.length : Int)) = 8 + (q.length : Int) := by unfold wrap64; omega
  rw [e1, if_neg (by omega), if_pos (by omega)]
  have e2 : ((p.length : Int) + 8).toNat = p.length + (nbs m 8).length := by rw [nbs_len]; omega
  rw [e2, Int.toNat_natCast, seg_at, vfold_nbs m h0 h1, if_neg (by omega)]
  have e3 : wrap64 m = m := by unfold wrap64; omega
  rw [e3]
  rfl
/-- A text that was put is taken. -/
theorem text_back (p q : List Int) (s : ByteArray) (most : Int) (hs : (s.size : Int) ≤ most) (hl : (p ++ (nbs (clampN s.size) 8 ++ bytesOf s) ++ q).length ≤ 100000) :
    field_Reader_Text.f (p ++ (nbs (clampN s.size) 8 ++ bytesOf s) ++ q) (p.length : Int) 0 0 most = some (s, ((p.length + 8 + s.size : Nat) : Int), 0, 0) := by
  have hbl : (bytesOf s).length = s.size := bytesOf_length s
  have hlen : (p ++ (nbs (clampN s.size) 8 ++ bytesOf s) ++ q).length = p.length + 8 + s.size + q.length := by simp [nbs_len, hbl]; omega
  rw [hlen] at hl
  have hc : clampN s.size = s.size := by
    unfold clampN mn mx
    rw [if_neg (by omega), if_neg (by omega)]
  have e0 : p ++ (nbs (clampN s.size) 8 ++ bytesOf s) ++ q = p ++ nbs (clampN s.size) 8 ++ (bytesOf s ++ q) := by simp
  have hn := num_back p (bytesOf s ++ q) (clampN s.size) (by omega) (by omega) (by rw [← e0, hlen]; omega)
  unfold field_Reader_Text.f
  rw [e0, hn, Option.bind_some]
  dsimp only
  rw [← e0, hlen, show okR 0 0 = true from rfl, if_pos rfl, hc, if_neg (by omega)]
  have e1 : wrap64 (((p.length + 8 + s.size + q.length : Nat) : Int) - ((p.length + 8 : Nat) : Int)) = (s.size : Int) + q.length := by unfold wrap64; omega
  rw [e1, if_neg (by omega), if_pos (by omega)]
  have e2 : (((p.length + 8 : Nat) : Int) + (s.size : Int)).toNat = (p ++ nbs (s.size : Int) 8).length + (bytesOf s).length := by simp [nbs_len, hbl]; omega
  have e3 : (((p.length + 8 : Nat) : Int)).toNat = (p ++ nbs (s.size : Int) 8).length := by rw [Int.toNat_natCast]; simp [nbs_len]
  have e4 : p ++ (nbs (s.size : Int) 8 ++ bytesOf s) ++ q = (p ++ nbs (s.size : Int) 8) ++ bytesOf s ++ q := by simp
  rw [e2, e3, e4, seg_at, strOfNums_bytesOf]
  congr 2
/-- A flag that was put is taken. -/
theorem flag_back (p q : List Int) (y : Bool) (hl : (p ++ [flagB y] ++ q).length ≤ 100000) :
    field_Reader_Flag.f (p ++ [flagB y] ++ q) (p.length : Int) 0 0 = some (y, ((p.length + 1 : Nat) : Int), 0, 0) := by
  have hlen : (p ++ [flagB y] ++ q).length = p.length + 1 + q.length := by simp; omega
  rw [hlen] at hl
  unfold field_Reader_Flag.f
  rw [okR_f, Option.bind_some]
  dsimp only
  rw [show okR 0 0 = true from rfl, if_pos rfl, leftR_f, Option.bind_some]
  dsimp only
  have e1 : wrap64 (((p.length + 1 + q.length : Nat) : Int) - (p.length : Int)) = 1 + (q.length : Int) := by unfold wrap64; omega
  have e2 : wrap64 ((p.length : Int) + 1) = ((p.length + 1 : Nat) : Int) := by unfold wrap64; omega
  have e3 : wrap64 (((p.length + 1 : Nat) : Int) - 1) = (p.length : Int) := by unfold wrap64; omega
  have e4 : rd (p ++ [flagB y] ++ q) (p.length : Int) = flagB y := by
    rw [List.append_assoc]
    exact rd_at p q (flagB y)
  rw [hlen, e1, e2, e3, e4, if_neg (by omega), if_pos (by omega), if_pos (by omega), if_neg (by unfold flagB; split <;> omega), if_pos (by omega), if_pos (by omega)]
  cases y <;> rfl
theorem end_back (p : List Int) (k : Nat) (hl : p.length ≤ 100000) : field_Reader_End.f (k + 1) p (p.length : Int) 0 0 = some (true, (p.length : Int), 0, 0) := by
  unfold field_Reader_End.f
  rw [okR_f, Option.bind_some]
  dsimp only
  rw [show okR 0 0 = true from rfl, if_pos rfl, leftR_f, Option.bind_some]
  dsimp only
  rw [show wrap64 ((p.length : Int) - (p.length : Int)) = 0 by unfold wrap64; omega, field_Reader_End.j0, if_neg (by simp), okR_f, Option.bind_some]
  rfl
theorem BB_append {p q : List Int} (hp : BB p) (hq : BB q) : BB (p ++ q) := by
  intro x hx
  rcases List.mem_append.1 hx with h | h
  · exact hp x h
  · exact hq x h
theorem bytesOf_BB (s : ByteArray) : BB (bytesOf s) := by
  intro x hx
  unfold bytesOf at hx
  rcases List.mem_map.1 hx with ⟨c, _, rfl⟩
  have := c.toNat_lt
  omega
end Go.Proofs.Ytdamiipeijnpnaa.Q
