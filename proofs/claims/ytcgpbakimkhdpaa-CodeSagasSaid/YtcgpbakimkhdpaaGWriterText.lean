/- (*field.Writer).Text and (*field.Writer).Flag: what a text and a flag add, by hand. -/
import Derived.Test.YtcgpbakimkhdpaaGWriterNum
import Derived.Lib.AppendStr
namespace Go.Proofs.Ytcgpbakimkhdpaa.Q
open Go.RowKit Go.Proofs.YtcgpbakimkhdpaaW.PrintWords Go.Proofs.YtcgpbakimkhdpaaW.PrintLast Go.Proofs.YtcgpbakimkhdpaaW.PrintMore
set_option linter.unusedVariables false
set_option linter.unusedSimpArgs false

section
variable {P : Program} {ops : Array Oper} {rest : List Oper} {o : Oper} {a : Act} {Q : Exit → Act → World → Prop} {Kc : Act → World → Prop}
/-- A string's bytes behind an own row: the row afterwards is the same one or a new one. -/
theorem append_str_run {w0 W : World} (base : Nat) (t u ty e : TypeId) (ht : P.underlying t = some (.slice e)) (hu : P.underlying u = some .string) (hinfo : (P.info? e).map (fun i => (i.zero, i.size, i.bytes)) = some (some (.int .u8 0), 1, 1))
    (v : Value) (xs : List Int) (y : ByteArray) (HO : Kd.R (Kd.int .u8) e W base (fun _ => True) v xs) (HB : Below base w0 W) (hbase : base ≤ W.heap.size) (hl : xs.length + y.size ≤ 140737488355328) :
    ∃ v1 w1, (Builtin.append_ #[t, u] ty #[v, .string y]).run P W = .ok v1 w1 ∧ Kd.R (Kd.int .u8) e w1 base (fun _ => True) v1 (xs ++ bytesOf y) ∧ Below base w0 w1 ∧ W.grownBy w1 v.ownBlock ∧ (v1.ownBlock = v.ownBlock ∨ ∃ b, v1.ownBlock = some b ∧ W.heap.size ≤ b) := by
  obtain ⟨i0, hi, hzz⟩ := Option.map_eq_some_iff.1 hinfo
  simp only [Prod.mk.injEq] at hzz
  obtain ⟨hz0, hz1, hz2⟩ := hzz
  have hown : W.ownsRow base e 1 v xs.length (nums .u8 xs) := Kd.own_of_R HO
  have hml : xs.length + y.size ≤ maxLen := by simp only [maxLen]; omega
  obtain ⟨v1, w1, hr, h2, hg, hnil⟩ := Lib.run_append_own_string (P := P) W base t u ty e i0 ht hu hi hz0 hz1 hz2 v xs.length (nums .u8 xs) hown y hml hl hbase
  have hat : v1.ownBlock = v.ownBlock ∨ ∃ b, v1.ownBlock = some b ∧ W.heap.size ≤ b := by
    have hxl : (nums .u8 xs).length = xs.length := by simpa using hown.1
    rcases hown.2 with ⟨hv, hn⟩ | ⟨g, cap, cur, hv, hbg, hgc, hnc, hcm, hcs, htake⟩
    · subst hv
      by_cases hm : y.size = 0
      · exact .inl (by rw [hnil.2 ⟨rfl, hm⟩])
      · have hr2 := run_append_nil_string (P := P) W t u ty e i0 (.int .u8 0) ht hu hi hz0 y (by omega) (by omega) (by rw [hz2]; omega)
        rw [hr] at hr2
        injection hr2 with e1 e2
        exact .inr ⟨_, by rw [e1]; rfl, Nat.le_refl _⟩
    · subst hv
      by_cases hroom : xs.length + y.size ≤ cap
      · have hcs' : cur.size = cap := by simpa using hcs
        have hr2 := Lib.run_append_room_string (P := P) W t u ty e i0 ht hu hi hz1 g xs.length cap cur hgc y hroom (by omega)
        rw [hr] at hr2
        injection hr2 with e1 e2
        exact .inl (by rw [e1]; rfl)
      · have holds : ∀ j u, (nums .u8 xs)[j]? = some u → W.cell? ((⟨g, 0, none⟩ : Addr).add j) = some u := hown.cells (g := g) rfl
        have hr2 := Lib.run_append_grow_string (P := P) W t u ty e i0 (.int .u8 0) ht hu hi hz0 ⟨g, 0, none⟩ xs.length cap (nums .u8 xs) (by rw [hz1]; simpa using hxl) holds y (by omega) (by omega) (by rw [hz2]; exact growslice_fits (by omega) (by omega))
        rw [hr] at hr2
        injection hr2 with e1 e2
        exact .inr ⟨_, by rw [e1]; rfl, Nat.le_refl _⟩
  have hc : nums .u8 (xs ++ bytesOf y) = nums .u8 xs ++ Lib.strCells y := by
    rw [nums_append]
    congr 1
    simp [nums, bytesOf, Lib.strCells]
  have hl2 : (xs ++ bytesOf y).length = xs.length + y.size := by rw [List.length_append, bytesOf_length]
  have h2' : w1.ownsRow base e 1 v1 (xs ++ bytesOf y).length (nums .u8 (xs ++ bytesOf y)) := by rw [hl2, hc]; exact h2
  exact ⟨v1, w1, hr, Kd.R_of_own (h1 := fun _ => rfl) h2' (fun _ _ => trivial), HB.grown hg hbase (own_base hown), hg, hat⟩
theorem append_str_ {w0 W : World} (base : Nat) (hgd : o.guard = none) (s x : Operand) (t u e : TypeId)
    (ho : o.op = .call { callee := .builtin .append, args := #[s, x], argTypes := #[t, u] })
    (ht : P.underlying t = some (.slice e)) (hu : P.underlying u = some .string) (hinfo : (P.info? e).map (fun i => (i.zero, i.size, i.bytes)) = some (some (.int .u8 0), 1, 1))
    (v : Value) (xs : List Int) (y : ByteArray) (hs : a.eval s = v) (hx : a.eval x = .string y)
    (HO : Kd.R (Kd.int .u8) e W base (fun _ => True) v xs) (HB : Below base w0 W) (hbase : base ≤ W.heap.size) (hl : xs.length + y.size ≤ 140737488355328)
    (h : ∀ v1 w1, Kd.R (Kd.int .u8) e w1 base (fun _ => True) v1 (xs ++ bytesOf y) → Below base w0 w1 → W.grownBy w1 v.ownBlock → (v1.ownBlock = v.ownBlock ∨ ∃ b, v1.ownBlock = some b ∧ W.heap.size ≤ b) → wpList P ops Q rest (a.put o.dst v1) w1) :
    wpList P ops Q (o :: rest) a W := by
  obtain ⟨v1, w1, hr, h1, h2, h3, h4⟩ := append_str_run (P := P) base t u o.type e ht hu hinfo v xs y HO HB hbase hl
  refine wpList_plain hgd fun K hK => ?_
  unfold Oper.wp execOp
  simp only [ho, resolve, invoke, builtin, Sem.run_bind, Sem.run_pure, Result.andThen_ok, List.map_toArray, List.map_cons, List.map_nil, hs, hx, hr]
  exact hK _ _ (h v1 w1 h1 h2 h3 h4)
end

set_option maxHeartbeats 1000000 in
set_option maxRecDepth 100000 in
theorem writer_Text.callsT (T : TypeId) (hT : 5 ≠ T) (g : Nat) (v : Value) (xs : List Int) (s : ByteArray) (w0 w : World) (hI : IsWT T w0 w g v xs) (hB : Below w0.heap.size w0 w) (hx : xs.length + s.size < 100000000) :
    Calls Try.prog 10 #[.pointer (some ⟨g, 0, none⟩), .string s] w fun e w' => ∃ v', e = .returned (.tuple #[]) ∧ IsWT T w0 w' g v' (xs ++ nbs (clampN s.size) 8 ++ bytesOf s) ∧ Below w0.heap.size w0 w' ∧ KeepBut w w' g v.ownBlock ∧ OwnNext w v v' := by
  have HI := Aside0.mk hI
  have HB := Aside0.mk hB
  have HN0 := Aside0.mk (show -9223372036854775808 ≤ (s.size : Int) ∧ (s.size : Int) ≤ 9223372036854775807 by omega)
  have HX := Aside0.mk (show xs.length < 100000000 by omega)
  have HL := Aside0.mk (show (xs ++ nbs (clampN s.size) 8).length + s.size ≤ 140737488355328 by simp [nbs]; omega)
  clear hI hB hx
  go_enter Try.func10, Try.ntmps10
  go_upto_region 1 with (first | (go_at_call 9; refine (writer_Num.callsT T hT g v xs (s.size : Int) w0 _ HI.out HB.out HN0.out HX.out).mono ?_; rintro e w1 ⟨u, rfl, hi, hb, hk, hn⟩; have HI1 := Aside0.mk hi; have HB1 := Aside0.mk hb; have HK := Aside0.mk hk; have HN := Aside0.mk hn; clear hi hb hk hn))
  obtain ⟨hg, hge, hR⟩ := HI1.out
  have HG := Aside0.mk hg
  have HGE := Aside0.mk hge
  have HU := Aside0.mk hR
  have hcell : w1.cell? ⟨g, 0, none⟩ = some u := (blk_cell hg 0).trans rfl
  clear hg hge hR
  go_wp2_with (first | ((with_reducible refine gate_builtin (b := .append) (xs := #[.tmp 12, .tmp 13]) rfl ?_); refine append_str_ (w0 := w0) w0.heap.size rfl (.tmp 12) (.tmp 13) 24 9 5 rfl Try.underlying24 Try.underlying9 infoW u (xs ++ nbs (clampN s.size) 8) s rfl rfl HU.out HB1.out HB1.out.size HL.out ?_; intro v2 w2 ho2 hb2 hgr hat; obtain ⟨A2, c2, e2⟩ := Kd.R_slice ho2; subst e2; have HG2 := Aside0.mk (blk_grown HG.out hgr (Kd.R_ne HU.out HG.out hT)); have HO2 := Aside0.mk ho2; have HB2 := Aside0.mk hb2; have HK2 := Aside0.mk (KeepBut.trans HK.out (KeepBut.of_grown hgr g) HN.out); have HN2 := Aside0.mk (own_next HK.out.1 HN.out hat); have hf2 := blk_frozen HG2.out 0; have hc2 := (blk_cell HG2.out 0).trans rfl; clear ho2 hb2 hgr hat))
  go_end0
  exact ⟨_, rfl, ⟨by simpa using blk_set HG2.out 0 _, HGE.out, Kd.R_set HO2.out HG2.out (ne_u8 hT) 0 _⟩, below_set HB2.out HGE.out, KeepBut.set_ HK2.out 0 _, HN2.out⟩

def flagB (b : Bool) : Int := if b = true then 1 else 0
set_option maxHeartbeats 1000000 in
set_option maxRecDepth 100000 in
theorem writer_Flag.callsT (T : TypeId) (hT : 5 ≠ T) (g : Nat) (v : Value) (xs : List Int) (b : Bool) (w0 w : World) (hI : IsWT T w0 w g v xs) (hB : Below w0.heap.size w0 w) (hx : xs.length < 100000000) :
    Calls Try.prog 12 #[.pointer (some ⟨g, 0, none⟩), .bool b] w fun e w' => ∃ v', e = .returned (.tuple #[]) ∧ IsWT T w0 w' g v' (xs ++ [flagB b]) ∧ Below w0.heap.size w0 w' ∧ KeepBut w w' g v.ownBlock ∧ OwnNext w v v' := by
  obtain ⟨hg, hge, hR⟩ := hI
  have HG := Aside0.mk hg
  have HGE := Aside0.mk hge
  have HU := Aside0.mk hR
  have hcell : w.cell? ⟨g, 0, none⟩ = some v := (blk_cell hg 0).trans rfl
  have HB := Aside0.mk hB
  have HL := Aside0.mk (show (xs.length + 1) * 1 ≤ 140737488355328 by omega)
  clear hg hge hR hB hx
  go_enter Try.func12, Try.ntmps12
  cases b
  · go_wp2_with (first | ((with_reducible refine gate_builtin (b := .append) (xs := #[.tmp 10, .tmp 12]) rfl ?_); refine Kd.R_append (Kd.int .u8) (w0 := w0) w0.heap.size rfl (.tmp 10) (.tmp 12) 24 5 (.int .u8 0) 1 rfl Try.underlying24 infoW rfl (by decide) (by omega) v xs 0 [.int .u8 0] (fun _ => True) (fun _ => False) rfl rfl rfl (fun _ hk => hk.elim) (fun _ _ => trivial) HU.out HB.out HB.out.size HL.out ?_; intro v2 w2 ho2 hb2 hgr hat; obtain ⟨A2, c2, e2⟩ := Kd.R_slice ho2; subst e2; have HG2 := Aside0.mk (blk_grown HG.out hgr (Kd.R_ne HU.out HG.out hT)); have HO2 := Aside0.mk ho2; have HB2 := Aside0.mk hb2; have HK2 := Aside0.mk (KeepBut.of_grown hgr g); have HN2 := Aside0.mk (own_next (Nat.le_refl _) (.inl rfl : OwnNext w v v) hat); have hf2 := blk_frozen HG2.out 0; have hc2 := (blk_cell HG2.out 0).trans rfl; clear ho2 hb2 hgr hat))
    go_end0
    exact ⟨_, rfl, ⟨by simpa using blk_set HG2.out 0 _, HGE.out, Kd.R_set HO2.out HG2.out (ne_u8 hT) 0 _⟩, below_set HB2.out HGE.out, KeepBut.set_ HK2.out 0 _, HN2.out⟩
  · go_wp2_with (first | ((with_reducible refine gate_builtin (b := .append) (xs := #[.tmp 10, .tmp 12]) rfl ?_); refine Kd.R_append (Kd.int .u8) (w0 := w0) w0.heap.size rfl (.tmp 10) (.tmp 12) 24 5 (.int .u8 0) 1 rfl Try.underlying24 infoW rfl (by decide) (by omega) v xs 1 [.int .u8 1] (fun _ => True) (fun _ => False) rfl rfl rfl (fun _ hk => hk.elim) (fun _ _ => trivial) HU.out HB.out HB.out.size HL.out ?_; intro v2 w2 ho2 hb2 hgr hat; obtain ⟨A2, c2, e2⟩ := Kd.R_slice ho2; subst e2; have HG2 := Aside0.mk (blk_grown HG.out hgr (Kd.R_ne HU.out HG.out hT)); have HO2 := Aside0.mk ho2; have HB2 := Aside0.mk hb2; have HK2 := Aside0.mk (KeepBut.of_grown hgr g); have HN2 := Aside0.mk (own_next (Nat.le_refl _) (.inl rfl : OwnNext w v v) hat); have hf2 := blk_frozen HG2.out 0; have hc2 := (blk_cell HG2.out 0).trans rfl; clear ho2 hb2 hgr hat))
    go_end0
    exact ⟨_, rfl, ⟨by simpa using blk_set HG2.out 0 _, HGE.out, Kd.R_set HO2.out HG2.out (ne_u8 hT) 0 _⟩, below_set HB2.out HGE.out, KeepBut.set_ HK2.out 0 _, HN2.out⟩
theorem writer_Text.calls (g : Nat) (v : Value) (xs : List Int) (s : ByteArray) (w0 w : World) (hI : IsW w0 w g v xs) (hB : Below w0.heap.size w0 w) (hx : xs.length + s.size < 100000000) :
    Calls Try.prog 10 #[.pointer (some ⟨g, 0, none⟩), .string s] w fun e w' => ∃ v', e = .returned (.tuple #[]) ∧ IsW w0 w' g v' (xs ++ nbs (clampN s.size) 8 ++ bytesOf s) ∧ Below w0.heap.size w0 w' ∧ KeepBut w w' g v.ownBlock ∧ OwnNext w v v' :=
  writer_Text.callsT _ (by decide) g v xs s w0 w hI hB hx
theorem writer_Flag.calls (g : Nat) (v : Value) (xs : List Int) (b : Bool) (w0 w : World) (hI : IsW w0 w g v xs) (hB : Below w0.heap.size w0 w) (hx : xs.length < 100000000) :
    Calls Try.prog 12 #[.pointer (some ⟨g, 0, none⟩), .bool b] w fun e w' => ∃ v', e = .returned (.tuple #[]) ∧ IsW w0 w' g v' (xs ++ [flagB b]) ∧ Below w0.heap.size w0 w' ∧ KeepBut w w' g v.ownBlock ∧ OwnNext w v v' :=
  writer_Flag.callsT _ (by decide) g v xs b w0 w hI hB hx
end Go.Proofs.Ytcgpbakimkhdpaa.Q
