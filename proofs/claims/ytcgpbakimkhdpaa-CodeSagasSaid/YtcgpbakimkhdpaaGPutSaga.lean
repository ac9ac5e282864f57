/- code.PutSaga, by hand: numbers, a text and a flag one behind the other. -/
import Derived.Test.YtcgpbakimkhdpaaGWriterText
import Derived.Test.YtcgpbakimkhdpaaGWriterBytes
namespace Go.Proofs.Ytcgpbakimkhdpaa.Q
open Go.RowKit Go.Proofs.YtcgpbakimkhdpaaW.PrintWords Go.Proofs.YtcgpbakimkhdpaaW.PrintLast Go.Proofs.YtcgpbakimkhdpaaW.PrintMore
set_option linter.unusedVariables false
set_option linter.unusedSimpArgs false

def encN (ns : List Int) : List Int := ns.flatMap fun n => nbs (clampN n) 8
theorem encN_succ (ns : List Int) (j : Nat) (h : j < ns.length) : encN (ns.take (j + 1)) = encN (ns.take j) ++ nbs (clampN (rd ns (j : Int))) 8 := by
  have e : rd ns (j : Int) = ns[j] := by
    unfold rd
    rw [Int.toNat_natCast, List.getD_eq_getElem?_getD, List.getElem?_eq_getElem h]
    rfl
  rw [e]
  unfold encN
  rw [List.take_succ_eq_append_getElem h, List.flatMap_append]
  simp
theorem encN_len (ns : List Int) : (encN ns).length = 8 * ns.length := by
  unfold encN
  induction ns with
  | nil => rfl
  | cons a l ih => rw [List.flatMap_cons, List.length_append, ih]; simp [nbs]; omega
def ints (ns : List Int) : Array Value := (ns.map (Value.int .i64)).toArray

set_option maxHeartbeats 1000000 in
set_option maxRecDepth 100000 in
theorem writer_nums.calls (T : TypeId) (hT : 5 ≠ T) (hT3 : 3 ≠ T) (g : Nat) (v : Value) (xs : List Int) (b : Nat) (ns : List Int) (w0 w : World) (hI : IsWT T w0 w g v xs) (hB : Below w0.heap.size w0 w) (hb : w.heap[b]? = some (.cells (ints ns) 3 (0, 0)))
    (hn : ∀ n ∈ ns, -9223372036854775808 ≤ n ∧ n ≤ 9223372036854775807) (hx : xs.length + 8 * ns.length < 100000000) :
    Calls Try.prog 11 #[.pointer (some ⟨g, 0, none⟩), .slice (some ⟨b, 0, none⟩) ns.length ns.length] w fun e w' => ∃ v', e = .returned (.tuple #[]) ∧ IsWT T w0 w' g v' (xs ++ encN ns) ∧ Below w0.heap.size w0 w' ∧ KeepBut w w' g v.ownBlock ∧ OwnNext w v v' := by
  have HI := Aside0.mk hI
  have HB := Aside0.mk hB
  have HBL := Aside0.mk hb
  have HNS := Aside0.mk hn
  have HX := Aside0.mk hx
  have HNE := Aside0.mk (show b ≠ g from blk_ne hb hI.1 hT3)
  clear hI hB hb hn hx
  go_enter Try.func11, Try.ntmps11
  go_wp2
  go_loopw [8] (fun v8 W => ∃ (j : Nat) (u : Value), j ≤ ns.length ∧ v8 = .int .i64 (j : Int) ∧ Aside0 (IsWT T w0 W g u (xs ++ encN (ns.take j))) ∧ Aside0 (Below w0.heap.size w0 W) ∧ Aside0 (KeepBut w W g v.ownBlock) ∧ Aside0 (OwnNext w v u)) (fun v8 _ => ns.length - (intOf v8).toNat)
  case atStart => exact ⟨0, v, by omega, rfl, ⟨by have := HI.out; simpa [encN] using this⟩, HB, ⟨KeepBut.refl w g _⟩, ⟨.inl rfl⟩⟩
  case round =>
    have HRN := Aside0.mk (Kd.R_ne HI.out.2.2 HBL.out (by decide))
    clear HI HB
    obtain ⟨j, u, hj, rfl, HI, HB, HK, HN⟩ := hrel
    by_cases hlt : j < ns.length
    · have HBW := Aside0.mk (KeepBut.blk HK.out HBL.out HNE.out HRN.out)
      have HS := Aside0.mk (encN_succ ns j hlt)
      have hc : wr.cell? ⟨b, j, none⟩ = some (.int .i64 (rd ns (j : Int))) := (blk_cell HBW.out j).trans (by
        unfold ints rd
        rw [Int.toNat_natCast, List.getD_eq_getElem?_getD, List.getElem?_eq_getElem hlt]
        simp [hlt])
      have HM := Aside0.mk (show -9223372036854775808 ≤ rd ns (j : Int) ∧ rd ns (j : Int) ≤ 9223372036854775807 from by
        unfold rd
        rw [Int.toNat_natCast, List.getD_eq_getElem?_getD, List.getElem?_eq_getElem hlt]
        exact HNS.out _ (List.getElem_mem hlt))
      have HL := Aside0.mk (show (xs ++ encN (ns.take j)).length < 100000000 by have := HX.out; rw [List.length_append, encN_len, List.length_take]; omega)
      generalize rd ns (j : Int) = m at *
      have HW := Aside0.mk (show wrap64 ((j : Int) + 1) = ((j + 1 : Nat) : Int) by unfold wrap64; have := HX.out; omega)
      obtain ⟨i, hi⟩ : ∃ i : Int, (j : Int) = i := ⟨_, rfl⟩
      have hc : wr.cell? ⟨b, i.toNat, none⟩ = some (.int .i64 m) := by rw [← hi, Int.toNat_natCast]; exact hc
      have HJ := Aside0.mk hi
      have q0 : decide (i < (ns.length : Int)) = true := decide_eq_true (by omega)
      have q1 := eq_true (show (0 : Int) ≤ i by omega)
      have q2 := eq_true (show i < (ns.length : Int) by omega)
      rw [hi] at HW ⊢
      clear hi
      go_wp2_with (first | (go_at_call 9; refine (writer_Num.callsT T hT g u _ m w0 _ HI.out HB.out HM.out HL.out).mono ?_; rintro e w5 ⟨u5, rfl, hi, hb, hk, hn⟩; have HI5 := Aside0.mk hi; have HB5 := Aside0.mk hb; have HK5 := Aside0.mk (KeepBut.trans HK.out hk HN.out); have HN5 := Aside0.mk (own_next HK.out.1 HN.out hn); clear hi hb hk hn))
      go_roundw
      case rel => exact ⟨j + 1, u5, by omega, by rw [HW.out], ⟨by rw [HS.out, ← List.append_assoc]; exact HI5.out⟩, HB5, HK5, HN5⟩
      case measure => have := HJ.out; simp [intOf, HW.out]; omega
    · have hjl : j = ns.length := by omega
      subst hjl
      have q0 : decide ((ns.length : Int) < (ns.length : Int)) = false := decide_eq_false (by omega)
      go_wp2
      go_end0
      exact ⟨u, rfl, by have := HI.out; rwa [List.take_length] at this, HB.out, HK.out, HN.out⟩
theorem IsWT.drew_ {T : TypeId} {w0 W : World} {g : Nat} {v : Value} {xs : List Int} (h : IsWT T w0 W g v xs) : IsWT T w0 W.drew g v xs := ⟨h.1, h.2.1, Kd.R_drew h.2.2⟩
theorem IsWT.below_ {T : TypeId} {w0 W W1 : World} {g : Nat} {v : Value} {xs : List Int} (h : IsWT T w0 W g v xs) (hb : Below W.heap.size W W1) : IsWT T w0 W1 g v xs :=
  ⟨blk_grown h.1 (grown_of_below hb none) (by simp), h.2.1, Kd.R_below h.2.2 hb⟩
section
variable {P : Program} {ops : Array Oper} {rest : List Oper} {o : Oper} {a : Act} {Q : Exit → Act → World → Prop}
theorem wp_cv {W : World} (hgd : o.guard = none) (x : Operand) (t u e : TypeId) (ho : o.op = .convert t u x) (A : Option Addr) (c : Nat) (xs : List Int) (hx : a.eval x = .slice A xs.length c)
    (ht : P.underlying t = some (.slice e)) (he : P.underlying e = some (.int .u8)) (hu : P.underlying u = some .string) (hC : Kd.C (Kd.int .u8) W A xs.length xs)
    (h : wpList P ops Q rest (a.put o.dst (.string (strOfNums xs))) W) : wpList P ops Q (o :: rest) a W := by
  have hcv := Kd.C_string (P := P) (A := A) (c := c) ht he hu hC
  refine wpList_plain hgd fun K hK => ?_
  unfold Oper.wp execOp
  simp only [ho, hx, Sem.run_bind, hcv, Result.andThen_ok, Sem.run_pure]
  exact hK _ _ h
end
theorem max_seven (ats : Array TypeId) (ty : TypeId) (a b c d e f g : Value) : Builtin.max_ ats ty #[a, b, c, d, e, f, g] = (Builtin.max2 a b >>= fun s => Builtin.max2 s c >>= fun s => Builtin.max2 s d >>= fun s => Builtin.max2 s e >>= fun s => Builtin.max2 s f >>= fun s => Builtin.max2 s g >>= fun s => pure s) := by simp only [Builtin.max_, List.foldlM_cons, List.foldlM_nil]
abbrev I64_ (n : Int) : Prop := -9223372036854775808 ≤ n ∧ n ≤ 9223372036854775807
def sagaB (a0_0 : Int) (a0_1 : ByteArray) (a0_2 a0_3 a0_4 a0_5 : Int) (a0_6 : Bool) (a0_7 a0_8 : Int) : List Int :=
  [] ++ nbs (clampN a0_0) 8 ++ nbs (clampN a0_1.size) 8 ++ bytesOf a0_1 ++ encN [a0_2, a0_3, a0_4, a0_5] ++ [flagB a0_6] ++ encN [a0_7, a0_8]
def code_PutSaga.f (a0_0 : Int) (a0_1 : ByteArray) (a0_2 : Int) (a0_3 : Int) (a0_4 : Int) (a0_5 : Int) (a0_6 : Bool) (a0_7 : Int) (a0_8 : Int) : Option (List Int) :=
  if (I64_ a0_0 ∧ I64_ a0_2 ∧ I64_ a0_3 ∧ I64_ a0_4 ∧ I64_ a0_5 ∧ I64_ a0_7 ∧ I64_ a0_8) ∧ a0_1.size < 1000000 then some (sagaB a0_0 a0_1 a0_2 a0_3 a0_4 a0_5 a0_6 a0_7 a0_8) else none

set_option maxHeartbeats 2000000 in
set_option maxRecDepth 100000 in
theorem code_PutSaga.calls (a0_0 : Int) (a0_1 : ByteArray) (a0_2 : Int) (a0_3 : Int) (a0_4 : Int) (a0_5 : Int) (a0_6 : Bool) (a0_7 : Int) (a0_8 : Int) (r : List Int) (w : World) (h : code_PutSaga.f a0_0 a0_1 a0_2 a0_3 a0_4 a0_5 a0_6 a0_7 a0_8 = some r) :
    Calls Try.prog 5 #[.agg #[.int .i64 a0_0, .string a0_1, .int .i64 a0_2, .int .i64 a0_3, .int .i64 a0_4, .int .i64 a0_5, .bool a0_6, .int .i64 a0_7, .int .i64 a0_8]] w fun e w' => ∃ v0_ : Value, e = .returned (v0_) ∧ Kd.R (Kd.int .u8) 5 w' w.heap.size (fun _ => True) v0_ r ∧ Below w.heap.size w w' := by
  unfold code_PutSaga.f at h
  by_cases hc : (I64_ a0_0 ∧ I64_ a0_2 ∧ I64_ a0_3 ∧ I64_ a0_4 ∧ I64_ a0_5 ∧ I64_ a0_7 ∧ I64_ a0_8) ∧ a0_1.size < 1000000
  · rw [if_pos hc] at h
    obtain rfl := Option.some.inj h
    clear h
    obtain ⟨⟨k0, k2, k3, k4, k5, k7, k8⟩, ksz⟩ := hc
    have K0 := Aside0.mk k0
    have K4 := Aside0.mk (show ∀ n ∈ [a0_2, a0_3, a0_4, a0_5], -9223372036854775808 ≤ n ∧ n ≤ 9223372036854775807 from fun n hn => by
      simp only [List.mem_cons, List.not_mem_nil, or_false] at hn
      rcases hn with h | h | h | h <;> subst h <;> assumption)
    have K2 := Aside0.mk (show ∀ n ∈ [a0_7, a0_8], -9223372036854775808 ≤ n ∧ n ≤ 9223372036854775807 from fun n hn => by
      simp only [List.mem_cons, List.not_mem_nil, or_false] at hn
      rcases hn with h | h <;> subst h <;> assumption)
    have hbl := bytesOf_length a0_1
    have L0 := Aside0.mk (show ([] : List Int).length < 100000000 by simp)
    have L1 := Aside0.mk (show ([] ++ nbs (clampN a0_0) 8 : List Int).length + a0_1.size < 100000000 by simp [nbs]; omega)
    have L2 := Aside0.mk (show ([] ++ nbs (clampN a0_0) 8 ++ nbs (clampN a0_1.size) 8 ++ bytesOf a0_1 : List Int).length + 8 * [a0_2, a0_3, a0_4, a0_5].length < 100000000 by simp [nbs, hbl]; omega)
    have L3 := Aside0.mk (show ([] ++ nbs (clampN a0_0) 8 ++ nbs (clampN a0_1.size) 8 ++ bytesOf a0_1 ++ encN [a0_2, a0_3, a0_4, a0_5] : List Int).length < 100000000 by simp [nbs, hbl, encN_len]; omega)
    have L4 := Aside0.mk (show ([] ++ nbs (clampN a0_0) 8 ++ nbs (clampN a0_1.size) 8 ++ bytesOf a0_1 ++ encN [a0_2, a0_3, a0_4, a0_5] ++ [flagB a0_6] : List Int).length + 8 * [a0_7, a0_8].length < 100000000 by simp [nbs, hbl, encN_len]; omega)
    have L5 := Aside0.mk (show (sagaB a0_0 a0_1 a0_2 a0_3 a0_4 a0_5 a0_6 a0_7 a0_8).length < 100000000 by simp [sagaB, nbs, hbl, encN_len]; omega)
    clear k0 k2 k3 k4 k5 k7 k8 ksz hbl
    have HB := Aside0.mk (Below.refl w.heap.size w)
    go_enter Try.func5, Try.ntmps5
    go_upto_region 2 with (first | ((with_reducible refine gate_dst (N := 1) rfl ?_); refine box_event ?hg (N := 1) ?hd (cs := #[.int .i64 a0_0, .string a0_1, .int .i64 a0_2, .int .i64 a0_3, .int .i64 a0_4, .int .i64 a0_5, .bool a0_6, .int .i64 a0_7, .int .i64 a0_8]) (t := 23) ?hr ?_; (case hd => rfl); (case hg => rfl); (case hr => first | (go_simp; done) | (go_simp; rfl)); intro gs hg w1 hbox hb; have HB1 := Aside0.mk (below_step HB.out hb); have BK1 := Aside0.mk hbox; clear hb hbox hg) | ((with_reducible refine gate_dst (N := 5) rfl ?_); refine box_event ?hg (N := 5) ?hd (cs := #[.slice none 0 0]) (t := 38) ?hr ?_; (case hd => rfl); (case hg => rfl); (case hr => first | (go_simp; done) | (go_simp; rfl)); intro gw hg w2 hbox hb; have NE := Aside0.mk (show gs ≠ gw by rw [hg]; exact Nat.ne_of_lt (blk_lt BK1.out)); have HB2 := Aside0.mk (below_step HB1.out hb); have BK2 := Aside0.mk (blk_below BK1.out hb); have HI2 := Aside0.mk (show IsWT 38 w w2 gw (.slice none 0 0) [] from ⟨hbox, by rw [hg]; exact HB1.out.size, Kd.R_nil _ _ _ _ _⟩); clear hb hbox hg))
    have HC := Aside0.mk (show w2.drew.cell? ⟨gs, 0, none⟩ = some (.int .i64 a0_0) from (blk_cell BK2.out 0).trans rfl)
    refine start_ (n := 6) (S := fun w' => w'.cell? ⟨gs, 0, none⟩ = some (.int .i64 a0_0)) (ds := []) #[false, false, false, false, false, false] (by kernel_rfl) rfl rfl (HC.out) (fun hHeld => ?_)
    refine pure_ (i := 0) (N := some 6) (v := ?_) (a' := ?_) #[true, false, false, false, false, false] rfl rfl (by kernel_rfl) (fun _ _ _ h => h) (Or.inl ⟨by rfl, ?_⟩) ?_ ?_
    rotate_left
    · intro w'
      go_simp
      with_reducible rfl
    rotate_left
    · simp only [Act.put, List.setIfInBounds_toArray, List.set_cons_zero, List.set_cons_succ, i64_w, i32_w]
      rfl
    refine pure_ (i := 1) (N := some 7) (v := ?_) (a' := ?_) #[true, true, false, false, false, false] rfl rfl (by kernel_rfl) (fun _ _ _ h => h) (Or.inl ⟨by rfl, ?_⟩) ?_ ?_
    rotate_left
    · intro w'
      go_simp
      with_reducible rfl
    rotate_left
    · simp only [Act.put, List.setIfInBounds_toArray, List.set_cons_zero, List.set_cons_succ, i64_w, i32_w]
      rfl
    refine pure_ (i := 2) (N := some 8) (v := ?_) (a' := ?_) #[true, true, true, false, false, false] rfl rfl (by kernel_rfl) (fun _ _ _ h => h) (Or.inl ⟨by rfl, ?_⟩) ?_ ?_
    rotate_left
    · intro w'
      go_simp
      with_reducible rfl
    rotate_left
    · simp only [Act.put, List.setIfInBounds_toArray, List.set_cons_zero, List.set_cons_succ, i64_w, i32_w]
      rfl
    refine pure_ (i := 3) (N := some 9) (v := ?_) (a' := ?_) #[true, true, true, true, false, false] rfl rfl (by kernel_rfl) (fun _ _ _ h => h) (Or.inl ⟨by rfl, ?_⟩) ?_ ?_
    rotate_left
    · intro w'
      go_simp
      with_reducible rfl
    rotate_left
    · simp only [Act.put, List.setIfInBounds_toArray, List.set_cons_zero, List.set_cons_succ, i64_w, i32_w]
      rfl
    refine take_ (i := 4) (N := some 10) (v := ?_) (a' := ?_) #[true, true, true, true, true, false] rfl rfl (by kernel_rfl) (fun _ _ _ h => h) (Or.inl ⟨by rfl, ?_⟩) hHeld ?_ ?_
    rotate_left
    · intro w' s0
      go_simp
      with_reducible rfl
    rotate_left
    · simp only [Act.put, List.setIfInBounds_toArray, List.set_cons_zero, List.set_cons_succ, i64_w, i32_w]
      rfl
    refine one_ (i := 5) (N := some 11) #[true, true, true, true, true, true] rfl rfl (by kernel_rfl) (by decide) (fun K hK => ?_)
    refine goes_ Try.func9 (by kernel_rfl) rfl #[.pointer (some ⟨gw, 0, none⟩), .int .i64 a0_0] (by rfl) rfl rfl (by simp only [List.map_toArray, List.map_cons, List.map_nil]; rfl) ?_
    with_reducible refine (writer_Num.callsT 38 (by decide) gw _ [] a0_0 w _ (IsWT.drew_ HI2.out) (below_drew1 HB2.out) K0.out L0.out).mono ?_
    rintro e w3 ⟨u3, rfl, hi, hb, hk, hn⟩
    refine ⟨_, rfl, ?_⟩
    have BK3 := Aside0.mk (KeepBut.blk hk (show w2.drew.heap[gs]? = _ from BK2.out) NE.out (Kd.R_ne (Kd.R_drew HI2.out.2.2) (show w2.drew.heap[gs]? = _ from BK2.out) (by decide)))
    have HI3 := Aside0.mk hi
    have HB3 := Aside0.mk hb
    have HC3 := Aside0.mk (show w3.cell? ⟨gs, 0, none⟩ = some (.int .i64 a0_0) from (blk_cell BK3.out 0).trans rfl)
    clear hi hb hk hn
    refine hK.out _ _ HC3.out (fun hHeld => ?_)
    clear hK K
    refine norm_ (a' := ?_) ?_ ?_
    rotate_left
    · show Act.put _ (some 11) _ = _
      simp only [Act.put, List.setIfInBounds_toArray, List.set_cons_zero, List.set_cons_succ, i64_w, i32_w]
      rfl
    refine done_ (by kernel_rfl) ?_


    clear HC
    go_upto_region 3 with (fail)
    have HC := Aside0.mk (show w3.drew.cell? ⟨gs, 1, none⟩ = some (.string a0_1) from (blk_cell BK3.out 1).trans rfl)
    refine start_ (n := 6) (S := fun w' => w'.cell? ⟨gs, 1, none⟩ = some (.string a0_1)) (ds := []) #[false, false, false, false, false, false] (by kernel_rfl) rfl rfl (HC.out) (fun hHeld => ?_)
    refine pure_ (i := 0) (N := some 12) (v := ?_) (a' := ?_) #[true, false, false, false, false, false] rfl rfl (by kernel_rfl) (fun _ _ _ h => h) (Or.inl ⟨by rfl, ?_⟩) ?_ ?_
    rotate_left
    · intro w'
      go_simp
      with_reducible rfl
    rotate_left
    · simp only [Act.put, List.setIfInBounds_toArray, List.set_cons_zero, List.set_cons_succ, i64_w, i32_w]
      rfl
    refine pure_ (i := 1) (N := some 13) (v := ?_) (a' := ?_) #[true, true, false, false, false, false] rfl rfl (by kernel_rfl) (fun _ _ _ h => h) (Or.inl ⟨by rfl, ?_⟩) ?_ ?_
    rotate_left
    · intro w'
      go_simp
      with_reducible rfl
    rotate_left
    · simp only [Act.put, List.setIfInBounds_toArray, List.set_cons_zero, List.set_cons_succ, i64_w, i32_w]
      rfl
    refine pure_ (i := 2) (N := some 14) (v := ?_) (a' := ?_) #[true, true, true, false, false, false] rfl rfl (by kernel_rfl) (fun _ _ _ h => h) (Or.inl ⟨by rfl, ?_⟩) ?_ ?_
    rotate_left
    · intro w'
      go_simp
      with_reducible rfl
    rotate_left
    · simp only [Act.put, List.setIfInBounds_toArray, List.set_cons_zero, List.set_cons_succ, i64_w, i32_w]
      rfl
    refine pure_ (i := 3) (N := some 15) (v := ?_) (a' := ?_) #[true, true, true, true, false, false] rfl rfl (by kernel_rfl) (fun _ _ _ h => h) (Or.inl ⟨by rfl, ?_⟩) ?_ ?_
    rotate_left
    · intro w'
      go_simp
      with_reducible rfl
    rotate_left
    · simp only [Act.put, List.setIfInBounds_toArray, List.set_cons_zero, List.set_cons_succ, i64_w, i32_w]
      rfl
    refine take_ (i := 4) (N := some 16) (v := ?_) (a' := ?_) #[true, true, true, true, true, false] rfl rfl (by kernel_rfl) (fun _ _ _ h => h) (Or.inl ⟨by rfl, ?_⟩) hHeld ?_ ?_
    rotate_left
    · intro w' s0
      go_simp
      with_reducible rfl
    rotate_left
    · simp only [Act.put, List.setIfInBounds_toArray, List.set_cons_zero, List.set_cons_succ, i64_w, i32_w]
      rfl
    refine one_ (i := 5) (N := some 17) #[true, true, true, true, true, true] rfl rfl (by kernel_rfl) (by decide) (fun K hK => ?_)
    refine goes_ Try.func10 (by kernel_rfl) rfl #[.pointer (some ⟨gw, 0, none⟩), .string a0_1] (by rfl) rfl rfl (by simp only [List.map_toArray, List.map_cons, List.map_nil]; rfl) ?_
    with_reducible refine (writer_Text.callsT 38 (by decide) gw _ _ a0_1 w _ (IsWT.drew_ HI3.out) (below_drew1 HB3.out) L1.out).mono ?_
    rintro e w4 ⟨u4, rfl, hi, hb, hk, hn⟩
    refine ⟨_, rfl, ?_⟩
    have BK4 := Aside0.mk (KeepBut.blk hk (show w3.drew.heap[gs]? = _ from BK3.out) NE.out (Kd.R_ne (Kd.R_drew HI3.out.2.2) (show w3.drew.heap[gs]? = _ from BK3.out) (by decide)))
    have HI4 := Aside0.mk hi
    have HB4 := Aside0.mk hb
    have HC4 := Aside0.mk (show w4.cell? ⟨gs, 1, none⟩ = some (.string a0_1) from (blk_cell BK4.out 1).trans rfl)
    clear hi hb hk hn
    refine hK.out _ _ HC4.out (fun hHeld => ?_)
    clear hK K
    refine norm_ (a' := ?_) ?_ ?_
    rotate_left
    · show Act.put _ (some 17) _ = _
      simp only [Act.put, List.setIfInBounds_toArray, List.set_cons_zero, List.set_cons_succ, i64_w, i32_w]
      rfl
    refine done_ (by kernel_rfl) ?_


    clear HC
    have z4_0 : w4.cell? ⟨gs, 0, none⟩ = some (.int .i64 a0_0) := (blk_cell BK4.out 0).trans rfl
    have z4_1 : w4.cell? ⟨gs, 1, none⟩ = some (.string a0_1) := (blk_cell BK4.out 1).trans rfl
    have z4_2 : w4.cell? ⟨gs, 2, none⟩ = some (.int .i64 a0_2) := (blk_cell BK4.out 2).trans rfl
    have z4_3 : w4.cell? ⟨gs, 3, none⟩ = some (.int .i64 a0_3) := (blk_cell BK4.out 3).trans rfl
    have z4_4 : w4.cell? ⟨gs, 4, none⟩ = some (.int .i64 a0_4) := (blk_cell BK4.out 4).trans rfl
    have z4_5 : w4.cell? ⟨gs, 5, none⟩ = some (.int .i64 a0_5) := (blk_cell BK4.out 5).trans rfl
    have z4_6 : w4.cell? ⟨gs, 6, none⟩ = some (.bool a0_6) := (blk_cell BK4.out 6).trans rfl
    have z4_7 : w4.cell? ⟨gs, 7, none⟩ = some (.int .i64 a0_7) := (blk_cell BK4.out 7).trans rfl
    have z4_8 : w4.cell? ⟨gs, 8, none⟩ = some (.int .i64 a0_8) := (blk_cell BK4.out 8).trans rfl
    go_upto_region 5 with (first | (go_at_call 11; refine (writer_nums.calls 38 (by decide) (by decide) gw _ _ _ [a0_2, a0_3, a0_4, a0_5] w _ (IsWT.below_ HI4.out (below_alloc (Below.refl _ _) _)) (below_alloc HB4.out _) (blk_new _ _) K4.out L2.out).mono ?_; rintro e w5 ⟨u5, rfl, hi, hb, hk, hn⟩; have BK5 := Aside0.mk (KeepBut.blk hk (blk_alloc BK4.out _) NE.out (Kd.R_ne HI4.out.2.2 BK4.out (by decide))); have HI5 := Aside0.mk hi; have HB5 := Aside0.mk hb; clear hi hb hk hn))
    have HC := Aside0.mk (show w5.drew.cell? ⟨gs, 6, none⟩ = some (.bool a0_6) from (blk_cell BK5.out 6).trans rfl)
    refine start_ (n := 6) (S := fun w' => w'.cell? ⟨gs, 6, none⟩ = some (.bool a0_6)) (ds := []) #[false, false, false, false, false, false] (by kernel_rfl) rfl rfl (HC.out) (fun hHeld => ?_)
    refine pure_ (i := 0) (N := some 29) (v := ?_) (a' := ?_) #[true, false, false, false, false, false] rfl rfl (by kernel_rfl) (fun _ _ _ h => h) (Or.inl ⟨by rfl, ?_⟩) ?_ ?_
    rotate_left
    · intro w'
      go_simp
      with_reducible rfl
    rotate_left
    · simp only [Act.put, List.setIfInBounds_toArray, List.set_cons_zero, List.set_cons_succ, i64_w, i32_w]
      rfl
    refine pure_ (i := 1) (N := some 30) (v := ?_) (a' := ?_) #[true, true, false, false, false, false] rfl rfl (by kernel_rfl) (fun _ _ _ h => h) (Or.inl ⟨by rfl, ?_⟩) ?_ ?_
    rotate_left
    · intro w'
      go_simp
      with_reducible rfl
    rotate_left
    · simp only [Act.put, List.setIfInBounds_toArray, List.set_cons_zero, List.set_cons_succ, i64_w, i32_w]
      rfl
    refine pure_ (i := 2) (N := some 31) (v := ?_) (a' := ?_) #[true, true, true, false, false, false] rfl rfl (by kernel_rfl) (fun _ _ _ h => h) (Or.inl ⟨by rfl, ?_⟩) ?_ ?_
    rotate_left
    · intro w'
      go_simp
      with_reducible rfl
    rotate_left
    · simp only [Act.put, List.setIfInBounds_toArray, List.set_cons_zero, List.set_cons_succ, i64_w, i32_w]
      rfl
    refine pure_ (i := 3) (N := some 32) (v := ?_) (a' := ?_) #[true, true, true, true, false, false] rfl rfl (by kernel_rfl) (fun _ _ _ h => h) (Or.inl ⟨by rfl, ?_⟩) ?_ ?_
    rotate_left
    · intro w'
      go_simp
      with_reducible rfl
    rotate_left
    · simp only [Act.put, List.setIfInBounds_toArray, List.set_cons_zero, List.set_cons_succ, i64_w, i32_w]
      rfl
    refine take_ (i := 4) (N := some 33) (v := ?_) (a' := ?_) #[true, true, true, true, true, false] rfl rfl (by kernel_rfl) (fun _ _ _ h => h) (Or.inl ⟨by rfl, ?_⟩) hHeld ?_ ?_
    rotate_left
    · intro w' s0
      go_simp
      with_reducible rfl
    rotate_left
    · simp only [Act.put, List.setIfInBounds_toArray, List.set_cons_zero, List.set_cons_succ, i64_w, i32_w]
      rfl
    refine one_ (i := 5) (N := some 34) #[true, true, true, true, true, true] rfl rfl (by kernel_rfl) (by decide) (fun K hK => ?_)
    refine goes_ Try.func12 (by kernel_rfl) rfl #[.pointer (some ⟨gw, 0, none⟩), .bool a0_6] (by rfl) rfl rfl (by simp only [List.map_toArray, List.map_cons, List.map_nil]; rfl) ?_
    with_reducible refine (writer_Flag.callsT 38 (by decide) gw _ _ a0_6 w _ (IsWT.drew_ HI5.out) (below_drew1 HB5.out) L3.out).mono ?_
    rintro e w6 ⟨u6, rfl, hi, hb, hk, hn⟩
    refine ⟨_, rfl, ?_⟩
    have BK6 := Aside0.mk (KeepBut.blk hk (show w5.drew.heap[gs]? = _ from BK5.out) NE.out (Kd.R_ne (Kd.R_drew HI5.out.2.2) (show w5.drew.heap[gs]? = _ from BK5.out) (by decide)))
    have HI6 := Aside0.mk hi
    have HB6 := Aside0.mk hb
    have HC6 := Aside0.mk (show w6.cell? ⟨gs, 6, none⟩ = some (.bool a0_6) from (blk_cell BK6.out 6).trans rfl)
    clear hi hb hk hn
    refine hK.out _ _ HC6.out (fun hHeld => ?_)
    clear hK K
    refine norm_ (a' := ?_) ?_ ?_
    rotate_left
    · show Act.put _ (some 34) _ = _
      simp only [Act.put, List.setIfInBounds_toArray, List.set_cons_zero, List.set_cons_succ, i64_w, i32_w]
      rfl
    refine done_ (by kernel_rfl) ?_


    clear HC
    have z6_0 : w6.cell? ⟨gs, 0, none⟩ = some (.int .i64 a0_0) := (blk_cell BK6.out 0).trans rfl
    have z6_1 : w6.cell? ⟨gs, 1, none⟩ = some (.string a0_1) := (blk_cell BK6.out 1).trans rfl
    have z6_2 : w6.cell? ⟨gs, 2, none⟩ = some (.int .i64 a0_2) := (blk_cell BK6.out 2).trans rfl
    have z6_3 : w6.cell? ⟨gs, 3, none⟩ = some (.int .i64 a0_3) := (blk_cell BK6.out 3).trans rfl
    have z6_4 : w6.cell? ⟨gs, 4, none⟩ = some (.int .i64 a0_4) := (blk_cell BK6.out 4).trans rfl
    have z6_5 : w6.cell? ⟨gs, 5, none⟩ = some (.int .i64 a0_5) := (blk_cell BK6.out 5).trans rfl
    have z6_6 : w6.cell? ⟨gs, 6, none⟩ = some (.bool a0_6) := (blk_cell BK6.out 6).trans rfl
    have z6_7 : w6.cell? ⟨gs, 7, none⟩ = some (.int .i64 a0_7) := (blk_cell BK6.out 7).trans rfl
    have z6_8 : w6.cell? ⟨gs, 8, none⟩ = some (.int .i64 a0_8) := (blk_cell BK6.out 8).trans rfl
    go_wp2_with (first | (go_at_call 11; refine (writer_nums.calls 38 (by decide) (by decide) gw _ _ _ [a0_7, a0_8] w _ (IsWT.below_ HI6.out (below_alloc (Below.refl _ _) _)) (below_alloc HB6.out _) (blk_new _ _) K2.out L4.out).mono ?_; rintro e w7 ⟨u7, rfl, hi, hb, hk, hn⟩; have HI7 := Aside0.mk hi; have HB7 := Aside0.mk hb; clear hi hb hk hn) | (go_at_call 13; refine (writer_Bytes.callsT 38 gw _ _ w _ HI7.out L5.out).mono ?_; rintro e w8 ⟨v8, rfl, hR, hi, hb⟩; have HR8 := Aside0.mk (Kd.R_lower hR HB7.out.size); have HB8 := Aside0.mk (below_step HB7.out hb); clear hR hi hb))
    go_ret
    exact ⟨_, rfl, HR8.out, HB8.out⟩
  · rw [if_neg hc] at h
    cases h
end Go.Proofs.Ytcgpbakimkhdpaa.Q
