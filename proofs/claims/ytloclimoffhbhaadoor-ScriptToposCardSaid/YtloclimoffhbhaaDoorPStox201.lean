-- Walks by hand.
-- halved
import Derived.Test.YtloclimoffhbhaaDoorSq6
import Derived.Test.YtloclimoffhbhaaDoorPStox200
namespace Go.Proofs.YtloclimoffhbhaaDoor.PSto
open Go.RowKit Go.Proofs.YtloclimoffhbhaaDoorW.PrintWords Go.Proofs.YtloclimoffhbhaaDoorW.PrintLast Go.Proofs.YtloclimoffhbhaaDoorW.PrintMore Go.Proofs.YtloclimoffhbhaaDoorW.PrintSq
attribute [local go_sem] max2_int min2_int max_two min_two max_three min_three max_four min_four   -- for this text's walks alone
set_option linter.unusedVariables false
set_option linter.unusedSimpArgs false

open Go.Proofs.YtloclimoffhbhaaDoor.Scr Go.Proofs.YtloclimoffhbhaaDoor.Facts Go.Proofs.YtloclimoffhbhaaDoor.Bits
theorem info133 : (Tryd.prog.info? 133).map (fun i => (i.zero, i.size, i.bytes)) = some (some (.agg #[.int .i64 0, .int .i64 0, .int .i64 0, .int .i64 0]), 4, 32) := by kernel_rfl
theorem info130 : (Tryd.prog.info? 130).map (fun i => (i.zero, i.size, i.bytes)) = some (some (.agg #[.int .i64 0, .int .i64 0, .bool false, .bool false, .int .u32 0, .int .i64 0, .int .u32 0, .int .i64 0, .int .i64 0, .int .u16 0, .int .u16 0, .int .u16 0, .int .u16 0]), 13, 72) := by kernel_rfl
theorem size22 : (Tryd.prog.info? 22).map (·.size) = some 1 := by kernel_rfl
theorem size23 : (Tryd.prog.info? 23).map (·.size) = some 1 := by kernel_rfl
theorem size24 : (Tryd.prog.info? 24).map (·.size) = some 1 := by kernel_rfl
/-- A topology under way: the block behind the pointer, and its three lists. -/
def Top (w0 w : World) (g : Nat) (P : List Int) (L : List S133) (A : List S130) : Prop := ∃ vP vL vA, w.heap[g]? = some (.cells #[vP, vL, vA] 26 (0, 0)) ∧ w0.heap.size ≤ g ∧ Kd.R (Kd.int .i64) 3 w w0.heap.size (fun _ => True) vP P ∧ Kd.R k133 133 w w0.heap.size (fun _ => True) vL L ∧ Kd.R k130 130 w w0.heap.size (fun _ => True) vA A
/-- Other blocks of that type stay. -/
def Keep26 (w w' : World) (g : Nat) : Prop := ∀ k cs, k ≠ g → w.heap[k]? = some (.cells cs 26 (0, 0)) → w'.heap[k]? = some (.cells cs 26 (0, 0))
theorem Keep26.trans {w w1 w2 : World} {g : Nat} (h : Keep26 w w1 g) (h' : Keep26 w1 w2 g) : Keep26 w w2 g := fun k cs hk hc => h' k cs hk (h k cs hk hc)
theorem Top.below {w0 w w1 : World} {g : Nat} {P : List Int} {L : List S133} {A : List S130} (h : Top w0 w g P L A) (hb : Below w.heap.size w w1) : Top w0 w1 g P L A := by
 obtain ⟨vP, vL, vA, h1, h2, h3, h4, h5⟩ := h
 exact ⟨vP, vL, vA, blk_below h1 hb, h2, Kd.R_below h3 hb, Kd.R_below h4 hb, Kd.R_below h5 hb⟩
def add_.T10 : Bool × List (List Nat × List Nat) := (true, [([], []), ([], []), ([1], [1]), ([2], [2]), ([3], [3]), ([], []), ([5], [5]), ([6], [6]), ([7], [7]), ([4, 8], [4, 8]), ([0, 0, 1, 2, 3, 4, 5, 6, 7, 8, 9], [0]), ([10, 0, 1, 2, 3, 4, 5, 6, 7, 8, 9], [10]), ([11, 9, 9, 0, 1, 2, 3, 4, 5, 6, 7, 8, 9], [9, 11])])
def add_.B10 : List Nat := [0, 0, 2, 6, 14, 0, 32, 96, 224, 510, 1023, 2047, 4095]
theorem add_.tab10 : rtab .any (opsOf Tryd.f79 10) = add_.T10 := by kernel_rfl
theorem add_.bits10 : waitsOk add_.T10.2 add_.B10 = true := by kernel_rfl
def add_.T17 : Bool × List (List Nat × List Nat) := (true, [([], []), ([], []), ([1], [1]), ([2], [2]), ([3], [3]), ([], []), ([5], [5]), ([6], [6]), ([], []), ([8], [8]), ([9], [9]), ([], []), ([11], [11]), ([12], [12]), ([], []), ([14], [14]), ([15], [15]), ([7, 10, 13, 16], [7, 10, 13, 16]), ([17], [17]), ([4, 18], [4, 18]), ([0, 0, 1, 2, 3, 4, 5, 6, 7, 8, 9, 10, 11, 12, 13, 14, 15, 16, 17, 18, 19], [0]), ([20, 0, 1, 2, 3, 4, 5, 6, 7, 8, 9, 10, 11, 12, 13, 14, 15, 16, 17, 18, 19], [20]), ([21, 19, 19, 0, 1, 2, 3, 4, 5, 6, 7, 8, 9, 10, 11, 12, 13, 14, 15, 16, 17, 18, 19], [19, 21])])
def add_.B17 : List Nat := [0, 0, 2, 6, 14, 0, 32, 96, 0, 256, 768, 0, 2048, 6144, 0, 16384, 49152, 131040, 262112, 524286, 1048575, 2097151, 4194303]
theorem add_.tab17 : rtab .any (opsOf Tryd.f79 17) = add_.T17 := by kernel_rfl
theorem add_.bits17 : waitsOk add_.T17.2 add_.B17 = true := by kernel_rfl
def add_.T22 : Bool × List (List Nat × List Nat) := (true, [([], []), ([], []), ([1], [1]), ([2], [2]), ([3], [3]), ([], []), ([5], [5]), ([4, 6], [4, 6]), ([0, 0, 1, 2, 3, 4, 5, 6, 7], [0]), ([8, 0, 1, 2, 3, 4, 5, 6, 7], [8]), ([9, 7, 7, 0, 1, 2, 3, 4, 5, 6, 7], [7, 9])])
def add_.B22 : List Nat := [0, 0, 2, 6, 14, 0, 32, 126, 255, 511, 1023]
theorem add_.tab22 : rtab .any (opsOf Tryd.f79 22) = add_.T22 := by kernel_rfl
theorem add_.bits22 : waitsOk add_.T22.2 add_.B22 = true := by kernel_rfl
set_option maxHeartbeats 4000000 in
set_option maxRecDepth 100000 in
theorem add_dev (kN : Nat) (n : Int) (P : List Int) (L : List S133) (A : List S130) (s : ByteArray) (t : List ByteArray) (g : Nat) (w0 w : World) (hT : Top w0 w g P L A) (hB : Below w0.heap.size w0 w) (hG : Hand.Good true false w) (hs : strings_Split.f s ⟨#[32]⟩ = some t) (hl : 0 < t.length) (h0 : (rdOf ByteArray.empty t 0).toList = [100, 101, 118, 105, 99, 101]) (hn : script_numbers.f kN (t.drop 1) = some ([n], 0)) (hlen : P.length ≤ 1000) :
  Calls Tryd.prog 79 #[.pointer (some ⟨g, 0, none⟩), .string s] w fun e w' => e = .returned (.int .i64 0) ∧ Top w0 w' g (P ++ [n]) L A ∧ Below w0.heap.size w0 w' ∧ Keep26 w w' g := by
 obtain ⟨vP, vL, vA, hb0, hg0, hr0, hr1, hr2⟩ := hT
 obtain ⟨A1, c1, e1⟩ := Kd.R_slice hr0
 subst e1
 obtain ⟨A2, c2, e2⟩ := Kd.R_slice hr1
 subst e2
 obtain ⟨A3, c3, e3⟩ := Kd.R_slice hr2
 subst e3
 have BK := Aside0.mk hb0
 have HG0 := Aside0.mk hg0
 have HR0 := Aside0.mk hr0
 have HR1 := Aside0.mk hr1
 have HR2 := Aside0.mk hr2
 clear hb0 hg0 hr0 hr1 hr2
 have HG := Aside0.mk hG
 have HB := Aside0.mk hB
 have HS := Aside0.mk hs
 have HL := Aside0.mk hl
 have HT0 := Aside0.mk h0
 have HN := Aside0.mk hn
 have HLEN := Aside0.mk hlen
 clear hG hB hs hl h0 hn hlen
 go_enter Tryd.func79, Tryd.ntmps79
 go_wp2_with (first
  | (go_at_call 84; (with_reducible refine (strings_Split.calls s ⟨#[32]⟩ t _ HG.out HS.out).mono ?_); rintro e w3 ⟨v3, rfl, hr, hb⟩; obtain ⟨A4, c4, e4⟩ := Kd.R_slice hr; subst e4; obtain ⟨_, hc4, hC4⟩ := Kd.R_reads' hr; have C4 := Aside0.mk hC4; have K4 := Aside0.mk hc4; have B3 := Aside0.mk hb; clear hr hb hc4 hC4; obtain ⟨ad, ead, hx⟩ := Kd.at_string C4.out 0 (by decide) (by have := HL.out; omega); cases ead; obtain ⟨t0, ht0⟩ : ∃ t0, t0 = rdOf ByteArray.empty t 0 := ⟨_, rfl⟩; rw [← ht0] at hx; replace hx : w3.cell? ad = some (.string t0) := hx; have T0 := Aside0.mk (show t0.toList = [100, 101, 118, 105, 99, 101] by rw [ht0]; exact HT0.out); have v_dev : (t0.toList == [100, 101, 118, 105, 99, 101]) = true := (by rw [T0.out]; rfl); have v_lnk : (t0.toList == [108, 105, 110, 107]) = false := (by rw [T0.out]; rfl); have v_acl : (t0.toList == [97, 99, 108]) = false := (by rw [T0.out]; rfl); clear ht0; have lp : decide (0 < t.length) = true := decide_eq_true (by have := HL.out; omega); have lp1 : (0 < t.length) = True := eq_true (by have := HL.out; omega); have lp2 : decide ((0 : Int) < (t.length : Int)) = true := decide_eq_true (by have := HL.out; omega); obtain ⟨i024, hi024, _, hsz24, _⟩ := info_parts info9; obtain ⟨A5, hcut5, hA5, hC5⟩ := print_drop_of (P := Tryd.prog) Value.string (⟨#[]⟩ : ByteArray) 30 9 .i64 Tryd.underlying30 hi024 hsz24 (some ad) c4 t 1 (by decide) (by have := HL.out; omega) K4.out; simp only [show (1 : Int).toNat = 1 from rfl] at hcut5 hC5 hA5; have C5' := Kd.C_of_reads (h1 := fun _ => rfl) (hA5 _ (Kd.reads_of_C C4.out)); have HN5' := HN.out; clear hA5; generalize t.drop 1 = t5 at hcut5 hC5 C5' HN5'; generalize c4 - 1 = c5 at hcut5 hC5; have C5 : Aside0 (Kd.C Kd.string _ A5 t5.length t5) := ⟨C5'⟩; have HN5 := Aside0.mk HN5'; have K5 := Aside0.mk hC5; clear hC5 C5' HN5' hi024 hsz24)
  | (go_at_call 108; (with_reducible refine (script_numbers.calls kN A5 c5 t5 [n] 0 _ C5.out K5.out HN5.out).mono ?_); rintro e w4 ⟨v4, rfl, hr, hb⟩; obtain ⟨An, cn, en⟩ := Kd.R_slice hr; subst en; have RN := Aside0.mk hr; have B4 := Aside0.mk (below_step B3.out hb); clear hr hb))
 obtain ⟨adn, eadn, _⟩ := Kd.at_int (Kd.R_reads' RN.out).2.2 0 (by decide) (by simp)
 cases eadn
 have BF := Aside0.mk B4.out
 have BD := Aside0.mk (below_drew1 BF.out)
 have KD := Aside0.mk (blk_drew (blk_below BK.out BF.out))
 have RD0 := Aside0.mk (Kd.R_drew (Kd.R_below HR0.out BF.out))
 have RD1 := Aside0.mk (Kd.R_drew (Kd.R_below HR1.out BF.out))
 have RD2 := Aside0.mk (Kd.R_drew (Kd.R_below HR2.out BF.out))
 have KF := Aside0.mk (show ∀ k cs, w.heap[k]? = some (.cells cs 26 (0, 0)) → w4.drew.heap[k]? = some (.cells cs 26 (0, 0)) from fun k cs h => blk_drew (blk_below h BF.out))
 have hq0 : w4.drew.cell? ⟨g, 0, none⟩ = some (.slice A1 P.length c1) := (blk_cell KD.out 0).trans rfl
 have ND := Aside0.mk (Kd.R_drew RN.out)
 have hq1 : w4.drew.cell? adn = some (.int .i64 n) := by
  obtain ⟨ad_, e_, h_⟩ := Kd.at_int (Kd.R_reads' ND.out).2.2 0 (by decide) (by simp)
  cases e_
  exact h_
 have QD0 := Aside0.mk hq1
 refine start_ (n := 13) (S := fun w' => w'.cell? ⟨g, 0, none⟩ = some (.slice A1 P.length c1) ∧ w'.cell? adn = some (.int .i64 n)) (ds := [9, 12]) #[false, false, false, false, false, false, false, false, false, false, false, false, false] (by kernel_rfl) rfl rfl ⟨hq0, hq1⟩ (fun hHeld => ?_)
 refine with_tabW add_.tab10 add_.bits10 (fun HT_ HW_ => ?_)
 clear hq0 hq1 ND
 generalize w4.drew = wd at BD KD KF RD0 RD1 RD2 QD0 hHeld ⊢
 have BB := Aside0.mk (below_step HB.out BD.out)
 refine pure_ (i := 0) (N := some 35) (v := ?_) (a' := ?_) #[true, false, false, false, false, false, false, false, false, false, false, false, false] rfl rfl (any_of HT_.out (by kernel_rfl)) (fun _ _ _ h => h) (Or.inl ⟨by rfl, ?_⟩) ?_ ?_
 rotate_left
 ·intro w'
  go_simp
  with_reducible rfl
 rotate_left
 ·simp only [Act.put, List.setIfInBounds_toArray, List.set_cons_zero, List.set_cons_succ, i64_w, i32_w]
  rfl
 refine pure_ (i := 1) (N := some 36) (v := ?_) (a' := ?_) #[true, true, false, false, false, false, false, false, false, false, false, false, false] rfl rfl (any_of HT_.out (by kernel_rfl)) (fun _ _ _ h => h) (Or.inl ⟨by rfl, ?_⟩) ?_ ?_
 rotate_left
 ·intro w'
  go_simp
  with_reducible rfl
 rotate_left
 ·simp only [Act.put, List.setIfInBounds_toArray, List.set_cons_zero, List.set_cons_succ, i64_w, i32_w]
  rfl
 refine pure_ (i := 2) (N := some 37) (v := ?_) (a' := ?_) #[true, true, true, false, false, false, false, false, false, false, false, false, false] rfl rfl (any_of HT_.out (by kernel_rfl)) (fun _ _ _ h => h) (Or.inl ⟨by rfl, ?_⟩) ?_ ?_
 rotate_left
 ·intro w'
  go_simp
  with_reducible rfl
 rotate_left
 ·simp only [Act.put, List.setIfInBounds_toArray, List.set_cons_zero, List.set_cons_succ, i64_w, i32_w]
  rfl
 refine pure_ (i := 3) (N := some 38) (v := ?_) (a' := ?_) #[true, true, true, true, false, false, false, false, false, false, false, false, false] rfl rfl (any_of HT_.out (by kernel_rfl)) (fun _ _ _ h => h) (Or.inl ⟨by rfl, ?_⟩) ?_ ?_
 rotate_left
 ·intro w'
  go_simp
  with_reducible rfl
 rotate_left
 ·simp only [Act.put, List.setIfInBounds_toArray, List.set_cons_zero, List.set_cons_succ, i64_w, i32_w]
  rfl
 refine pure_ (i := 5) (N := some 40) (v := ?_) (a' := ?_) #[true, true, true, true, false, true, false, false, false, false, false, false, false] rfl rfl (any_of HT_.out (by kernel_rfl)) (fun _ _ _ h => h) (Or.inl ⟨by rfl, ?_⟩) ?_ ?_
 rotate_left
 ·intro w'
  go_simp
  with_reducible rfl
 rotate_left
 ·simp only [Act.put, List.setIfInBounds_toArray, List.set_cons_zero, List.set_cons_succ, i64_w, i32_w]
  rfl
 refine pure_ (i := 6) (N := some 41) (v := ?_) (a' := ?_) #[true, true, true, true, false, true, true, false, false, false, false, false, false] rfl rfl (any_of HT_.out (by kernel_rfl)) (fun _ _ _ h => h) (Or.inl ⟨by rfl, ?_⟩) ?_ ?_
 rotate_left
 ·intro w'
  go_simp
  with_reducible rfl
 rotate_left
 ·simp only [Act.put, List.setIfInBounds_toArray, List.set_cons_zero, List.set_cons_succ, i64_w, i32_w]
  rfl
 refine take_ (i := 4) (N := some 39) (v := ?_) (a' := ?_) #[true, true, true, true, true, true, true, false, false, false, false, false, false] rfl rfl (take_ofW HT_.out HW_.out (by kernel_rfl)) (fun _ _ _ h => h) (Or.inl ⟨by rfl, ?_⟩) hHeld ?_ ?_
 rotate_left
 ·rintro w' ⟨s0, s1⟩
  go_simp
  with_reducible rfl
 rotate_left
 ·simp only [Act.put, List.setIfInBounds_toArray, List.set_cons_zero, List.set_cons_succ, i64_w, i32_w]
  rfl
 refine take_ (i := 7) (N := some 42) (v := ?_) (a' := ?_) #[true, true, true, true, true, true, true, true, false, false, false, false, false] rfl rfl (take_ofW HT_.out HW_.out (by kernel_rfl)) (fun _ _ _ h => h) (Or.inl ⟨by rfl, ?_⟩) hHeld ?_ ?_
 rotate_left
 ·rintro w' ⟨s0, s1⟩
  go_simp
  with_reducible rfl
 rotate_left
 ·simp only [Act.put, List.setIfInBounds_toArray, List.set_cons_zero, List.set_cons_succ, i64_w, i32_w]
  rfl
 refine one_ (i := 8) (N := some 43) #[true, true, true, true, true, true, true, true, true, false, false, false, false] rfl rfl (one_of HT_.out (by kernel_rfl)) (by decide) (fun K hK => ?_)
 refine value_ (w1 := ?_) (v := ?_) (by rfl) rfl ?_ ?_
 rotate_left 2
 ·go_simp
  constructor
  ·rfl
  ·rfl
 refine hK.out _ _ ⟨((blk_cell (blk_below KD.out (below_alloc (Below.refl _ _) _)) 0).trans rfl), (pw_cell_below (below_alloc (Below.refl _ _) _) QD0.out)⟩ (fun hHeld => ?_)
 clear hK K
 refine norm_ (a' := ?_) ?_ ?_
 rotate_left
 ·show Act.put _ (some 43) _ = _
  simp only [Act.put, List.setIfInBounds_toArray, List.set_cons_zero, List.set_cons_succ, i64_w, i32_w]
  rfl
 refine last_ (i := 9) (N := some 44) #[true, true, true, true, true, true, true, true, true, true, false, false, false] rfl rfl (one_of HT_.out (by kernel_rfl)) (by decide) (fun K hK => ?_)
 refine Kd.R_append_step (Kd.int .i64) (w0 := w0) w0.heap.size (by rfl) (.tmp 39) (.tmp 43) 22 3 (.int .i64 0) 8 rfl Tryd.underlying22 info3 rfl (by decide) (by omega) (.slice A1 P.length c1) P n [.int .i64 n] (fun _ => True) (fun _ => False) rfl rfl ?aP (fun _ hk => hk.elim) ?aF ?aO ?aB ?aS ?aL ?_
 case aP => exact rfl
 case aF => exact (fun k hk => trivial)
 case aO => exact RD0.out
 case aB => exact BB.out
 case aS => exact BB.out.size
 case aL => have := HLEN.out; omega
 intro v9 w9 ho hb9 hg9 hat9
 have HO9 := Aside0.mk ho
 have HB9 := Aside0.mk hb9
 have RX1 := Aside0.mk (Kd.R_mono (Kd.R_grown (Kd.R_apartR RD1.out RD0.out (by decide)) hg9 (fun _ h => h.2)) (fun _ _ => trivial))
 have RX2 := Aside0.mk (Kd.R_mono (Kd.R_grown (Kd.R_apartR RD2.out RD0.out (by decide)) hg9 (fun _ h => h.2)) (fun _ _ => trivial))
 have KX := Aside0.mk (blk_grown KD.out hg9 (Kd.R_ne RD0.out KD.out (by decide)))
 have KG := Aside0.mk (show ∀ k cs, w.heap[k]? = some (.cells cs 26 (0, 0)) → w9.heap[k]? = some (.cells cs 26 (0, 0)) from fun k cs h => blk_grown (KF.out k cs h) hg9 (Kd.R_ne RD0.out (KF.out k cs h) (by decide)))
 clear ho hb9 hg9 hat9
 obtain ⟨A9, c9, e9⟩ := Kd.R_slice HO9.out
 subst e9
 refine hK.out _ _ ?_
 clear hK K
 refine norm_ (a' := ?_) ?_ ?_
 rotate_left
 ·show Act.put _ (some 44) _ = _
  simp only [Act.put, List.setIfInBounds_toArray, List.set_cons_zero, List.set_cons_succ, i64_w, i32_w]
  rfl
 refine pure_ (i := 10) (N := some 45) (v := ?_) (a' := ?_) #[true, true, true, true, true, true, true, true, true, true, true, false, false] rfl rfl (any_of HT_.out (by kernel_rfl)) (fun _ _ _ h => h) (Or.inl ⟨by rfl, ?_⟩) ?_ ?_
 rotate_left
 ·intro w'
  go_simp
  with_reducible rfl
 rotate_left
 ·simp only [Act.put, List.setIfInBounds_toArray, List.set_cons_zero, List.set_cons_succ, i64_w, i32_w]
  rfl
 refine pure_ (i := 11) (N := some 46) (v := ?_) (a' := ?_) #[true, true, true, true, true, true, true, true, true, true, true, true, false] rfl rfl (any_of HT_.out (by kernel_rfl)) (fun _ _ _ h => h) (Or.inl ⟨by rfl, ?_⟩) ?_ ?_
 rotate_left
 ·intro w'
  go_simp
  with_reducible rfl
 rotate_left
 ·simp only [Act.put, List.setIfInBounds_toArray, List.set_cons_zero, List.set_cons_succ, i64_w, i32_w]
  rfl
 refine last_ (i := 12) (N := none) #[true, true, true, true, true, true, true, true, true, true, true, true, true] rfl rfl (one_of HT_.out (by kernel_rfl)) (by decide) (fun K hK => ?_)
 refine Hand.store_one (by rfl) rfl 22 (.tmp 46) (.tmp 44) rfl _ rfl rfl KX.out rfl size22 (show 0 + 1 ≤ 3 by decide) rfl (fun w7 hw7 => ?_)
 have T7 := Aside0.mk (show Top w0 w7 g (P ++ [n]) L A by
  rw [hw7]
  exact ⟨_, _, _, blk_put KX.out 0 _ rfl, HG0.out, Kd.R_set HO9.out KX.out (by decide) 0 _, Kd.R_set RX1.out KX.out (by decide) 0 _, Kd.R_set RX2.out KX.out (by decide) 0 _⟩)
 have B7 := Aside0.mk (show Below w0.heap.size w0 w7 by rw [hw7]; exact below_set HB9.out HG0.out)
 have K7 := Aside0.mk (show Keep26 w w7 g by rw [hw7]; exact fun k cs hk h => blk_far (p := ⟨g, 0, none⟩) (KG.out k cs h) hk _)
 clear hw7
 refine hK.out _ _ ?_
 clear hK K
 refine done_ (done_of HT_.out (by kernel_rfl)) ?_
 go_wp2
 go_ret
 exact ⟨rfl, T7.out, B7.out, K7.out⟩
set_option maxHeartbeats 4000000 in
set_option maxRecDepth 100000 in
theorem add_lnk (kN : Nat) (na nb nc nd : Int) (P : List Int) (L : List S133) (A : List S130) (s : ByteArray) (t : List ByteArray) (g : Nat) (w0 w : World) (hT : Top w0 w g P L A) (hB : Below w0.heap.size w0 w) (hG : Hand.Good true false w) (hs : strings_Split.f s ⟨#[32]⟩ = some t) (hl : 0 < t.length) (h0 : (rdOf ByteArray.empty t 0).toList = [108, 105, 110, 107]) (hn : script_numbers.f kN (t.drop 1) = some ([na, nb, nc, nd], 0)) (hlen : L.length ≤ 1000) :
  Calls Tryd.prog 79 #[.pointer (some ⟨g, 0, none⟩), .string s] w fun e w' => e = .returned (.int .i64 0) ∧ Top w0 w' g P (L ++ [⟨na, nb, nc, nd⟩]) A ∧ Below w0.heap.size w0 w' ∧ Keep26 w w' g := by
 obtain ⟨vP, vL, vA, hb0, hg0, hr0, hr1, hr2⟩ := hT
 obtain ⟨A1, c1, e1⟩ := Kd.R_slice hr0
 subst e1
 obtain ⟨A2, c2, e2⟩ := Kd.R_slice hr1
 subst e2
 obtain ⟨A3, c3, e3⟩ := Kd.R_slice hr2
 subst e3
 have BK := Aside0.mk hb0
 have HG0 := Aside0.mk hg0
 have HR0 := Aside0.mk hr0
 have HR1 := Aside0.mk hr1
 have HR2 := Aside0.mk hr2
 clear hb0 hg0 hr0 hr1 hr2
 have HG := Aside0.mk hG
 have HB := Aside0.mk hB
 have HS := Aside0.mk hs
 have HL := Aside0.mk hl
 have HT0 := Aside0.mk h0
 have HN := Aside0.mk hn
 have HLEN := Aside0.mk hlen
 clear hG hB hs hl h0 hn hlen
 go_enter Tryd.func79, Tryd.ntmps79
 go_wp2_with (first
  | (go_at_call 84; (with_reducible refine (strings_Split.calls s ⟨#[32]⟩ t _ HG.out HS.out).mono ?_); rintro e w3 ⟨v3, rfl, hr, hb⟩; obtain ⟨A4, c4, e4⟩ := Kd.R_slice hr; subst e4; obtain ⟨_, hc4, hC4⟩ := Kd.R_reads' hr; have C4 := Aside0.mk hC4; have K4 := Aside0.mk hc4; have B3 := Aside0.mk hb; clear hr hb hc4 hC4; obtain ⟨ad, ead, hx⟩ := Kd.at_string C4.out 0 (by decide) (by have := HL.out; omega); cases ead; obtain ⟨t0, ht0⟩ : ∃ t0, t0 = rdOf ByteArray.empty t 0 := ⟨_, rfl⟩; rw [← ht0] at hx; replace hx : w3.cell? ad = some (.string t0) := hx; have T0 := Aside0.mk (show t0.toList = [108, 105, 110, 107] by rw [ht0]; exact HT0.out); have v_dev : (t0.toList == [100, 101, 118, 105, 99, 101]) = false := (by rw [T0.out]; rfl); have v_lnk : (t0.toList == [108, 105, 110, 107]) = true := (by rw [T0.out]; rfl); have v_acl : (t0.toList == [97, 99, 108]) = false := (by rw [T0.out]; rfl); clear ht0; have lp : decide (0 < t.length) = true := decide_eq_true (by have := HL.out; omega); have lp1 : (0 < t.length) = True := eq_true (by have := HL.out; omega); have lp2 : decide ((0 : Int) < (t.length : Int)) = true := decide_eq_true (by have := HL.out; omega); obtain ⟨i024, hi024, _, hsz24, _⟩ := info_parts info9; obtain ⟨A5, hcut5, hA5, hC5⟩ := print_drop_of (P := Tryd.prog) Value.string (⟨#[]⟩ : ByteArray) 30 9 .i64 Tryd.underlying30 hi024 hsz24 (some ad) c4 t 1 (by decide) (by have := HL.out; omega) K4.out; simp only [show (1 : Int).toNat = 1 from rfl] at hcut5 hC5 hA5; have C5' := Kd.C_of_reads (h1 := fun _ => rfl) (hA5 _ (Kd.reads_of_C C4.out)); have HN5' := HN.out; clear hA5; generalize t.drop 1 = t5 at hcut5 hC5 C5' HN5'; generalize c4 - 1 = c5 at hcut5 hC5; have C5 : Aside0 (Kd.C Kd.string _ A5 t5.length t5) := ⟨C5'⟩; have HN5 := Aside0.mk HN5'; have K5 := Aside0.mk hC5; clear hC5 C5' HN5' hi024 hsz24)
  | (go_at_call 108; (with_reducible refine (script_numbers.calls kN A5 c5 t5 [na, nb, nc, nd] 0 _ C5.out K5.out HN5.out).mono ?_); rintro e w4 ⟨v4, rfl, hr, hb⟩; obtain ⟨An, cn, en⟩ := Kd.R_slice hr; subst en; have RN := Aside0.mk hr; have B4 := Aside0.mk (below_step B3.out hb); clear hr hb))
 obtain ⟨adn, eadn, _⟩ := Kd.at_int (Kd.R_reads' RN.out).2.2 0 (by decide) (by simp)
 cases eadn
 have BF := Aside0.mk B4.out
 have BD := Aside0.mk (below_drew1 BF.out)
 have KD := Aside0.mk (blk_drew (blk_below BK.out BF.out))
 have RD0 := Aside0.mk (Kd.R_drew (Kd.R_below HR0.out BF.out))
 have RD1 := Aside0.mk (Kd.R_drew (Kd.R_below HR1.out BF.out))
 have RD2 := Aside0.mk (Kd.R_drew (Kd.R_below HR2.out BF.out))
 have KF := Aside0.mk (show ∀ k cs, w.heap[k]? = some (.cells cs 26 (0, 0)) → w4.drew.heap[k]? = some (.cells cs 26 (0, 0)) from fun k cs h => blk_drew (blk_below h BF.out))
 have hq0 : w4.drew.cell? ⟨g, 1, none⟩ = some (.slice A2 L.length c2) := (blk_cell KD.out 1).trans rfl
 have ND := Aside0.mk (Kd.R_drew RN.out)
 have hq1 : w4.drew.cell? adn = some (.int .i64 na) := by
  obtain ⟨ad_, e_, h_⟩ := Kd.at_int (Kd.R_reads' ND.out).2.2 0 (by decide) (by simp)
  cases e_
  exact h_
 have QD0 := Aside0.mk hq1
 have hq2 : w4.drew.cell? ⟨adn.block, adn.off + 1, none⟩ = some (.int .i64 nb) := by
  obtain ⟨ad_, e_, h_⟩ := Kd.at_int (Kd.R_reads' ND.out).2.2 1 (by decide) (by simp)
  cases e_
  exact h_
 have QD1 := Aside0.mk hq2
 have hq3 : w4.drew.cell? ⟨adn.block, adn.off + 2, none⟩ = some (.int .i64 nc) := by
  obtain ⟨ad_, e_, h_⟩ := Kd.at_int (Kd.R_reads' ND.out).2.2 2 (by decide) (by simp)
  cases e_
  exact h_
 have QD2 := Aside0.mk hq3
 have hq4 : w4.drew.cell? ⟨adn.block, adn.off + 3, none⟩ = some (.int .i64 nd) := by
  obtain ⟨ad_, e_, h_⟩ := Kd.at_int (Kd.R_reads' ND.out).2.2 3 (by decide) (by simp)
  cases e_
  exact h_
 have QD3 := Aside0.mk hq4
 refine start_ (n := 23) (S := fun w' => w'.cell? ⟨g, 1, none⟩ = some (.slice A2 L.length c2) ∧ w'.cell? adn = some (.int .i64 na) ∧ w'.cell? ⟨adn.block, adn.off + 1, none⟩ = some (.int .i64 nb) ∧ w'.cell? ⟨adn.block, adn.off + 2, none⟩ = some (.int .i64 nc) ∧ w'.cell? ⟨adn.block, adn.off + 3, none⟩ = some (.int .i64 nd)) (ds := [19, 22]) #[false, false, false, false, false, false, false, false, false, false, false, false, false, false, false, false, false, false, false, false, false, false, false] (by kernel_rfl) rfl rfl ⟨hq0, hq1, hq2, hq3, hq4⟩ (fun hHeld => ?_)
 refine with_tabW add_.tab17 add_.bits17 (fun HT_ HW_ => ?_)
 clear hq0 hq1 hq2 hq3 hq4 ND
 generalize w4.drew = wd at BD KD KF RD0 RD1 RD2 QD0 QD1 QD2 QD3 hHeld ⊢
 have BB := Aside0.mk (below_step HB.out BD.out)
 refine pure_ (i := 0) (N := some 65) (v := ?_) (a' := ?_) #[true, false, false, false, false, false, false, false, false, false, false, false, false, false, false, false, false, false, false, false, false, false, false] rfl rfl (any_of HT_.out (by kernel_rfl)) (fun _ _ _ h => h) (Or.inl ⟨by rfl, ?_⟩) ?_ ?_
 rotate_left
 ·intro w'
  go_simp
  with_reducible rfl
 rotate_left
 ·simp only [Act.put, List.setIfInBounds_toArray, List.set_cons_zero, List.set_cons_succ, i64_w, i32_w]
  rfl
 refine pure_ (i := 1) (N := some 66) (v := ?_) (a' := ?_) #[true, true, false, false, false, false, false, false, false, false, false, false, false, false, false, false, false, false, false, false, false, false, false] rfl rfl (any_of HT_.out (by kernel_rfl)) (fun _ _ _ h => h) (Or.inl ⟨by rfl, ?_⟩) ?_ ?_
 rotate_left
 ·intro w'
  go_simp
  with_reducible rfl
 rotate_left
 ·simp only [Act.put, List.setIfInBounds_toArray, List.set_cons_zero, List.set_cons_succ, i64_w, i32_w]
  rfl
 refine pure_ (i := 2) (N := some 67) (v := ?_) (a' := ?_) #[true, true, true, false, false, false, false, false, false, false, false, false, false, false, false, false, false, false, false, false, false, false, false] rfl rfl (any_of HT_.out (by kernel_rfl)) (fun _ _ _ h => h) (Or.inl ⟨by rfl, ?_⟩) ?_ ?_
 rotate_left
 ·intro w'
  go_simp
  with_reducible rfl
 rotate_left
 ·simp only [Act.put, List.setIfInBounds_toArray, List.set_cons_zero, List.set_cons_succ, i64_w, i32_w]
  rfl
 refine pure_ (i := 3) (N := some 68) (v := ?_) (a' := ?_) #[true, true, true, true, false, false, false, false, false, false, false, false, false, false, false, false, false, false, false, false, false, false, false] rfl rfl (any_of HT_.out (by kernel_rfl)) (fun _ _ _ h => h) (Or.inl ⟨by rfl, ?_⟩) ?_ ?_
 rotate_left
 ·intro w'
  go_simp
  with_reducible rfl
 rotate_left
 ·simp only [Act.put, List.setIfInBounds_toArray, List.set_cons_zero, List.set_cons_succ, i64_w, i32_w]
  rfl
 refine pure_ (i := 5) (N := some 70) (v := ?_) (a' := ?_) #[true, true, true, true, false, true, false, false, false, false, false, false, false, false, false, false, false, false, false, false, false, false, false] rfl rfl (any_of HT_.out (by kernel_rfl)) (fun _ _ _ h => h) (Or.inl ⟨by rfl, ?_⟩) ?_ ?_
 rotate_left
 ·intro w'
  go_simp
  with_reducible rfl
 rotate_left
 ·simp only [Act.put, List.setIfInBounds_toArray, List.set_cons_zero, List.set_cons_succ, i64_w, i32_w]
  rfl
 refine pure_ (i := 6) (N := some 71) (v := ?_) (a' := ?_) #[true, true, true, true, false, true, true, false, false, false, false, false, false, false, false, false, false, false, false, false, false, false, false] rfl rfl (any_of HT_.out (by kernel_rfl)) (fun _ _ _ h => h) (Or.inl ⟨by rfl, ?_⟩) ?_ ?_
 rotate_left
 ·intro w'
  go_simp
  with_reducible rfl
 rotate_left
 ·simp only [Act.put, List.setIfInBounds_toArray, List.set_cons_zero, List.set_cons_succ, i64_w, i32_w]
  rfl
 refine pure_ (i := 8) (N := some 73) (v := ?_) (a' := ?_) #[true, true, true, true, false, true, true, false, true, false, false, false, false, false, false, false, false, false, false, false, false, false, false] rfl rfl (any_of HT_.out (by kernel_rfl)) (fun _ _ _ h => h) (Or.inl ⟨by rfl, ?_⟩) ?_ ?_
 rotate_left
 ·intro w'
  go_simp
  with_reducible rfl
 rotate_left
 ·simp only [Act.put, List.setIfInBounds_toArray, List.set_cons_zero, List.set_cons_succ, i64_w, i32_w]
  rfl
 refine pure_ (i := 9) (N := some 74) (v := ?_) (a' := ?_) #[true, true, true, true, false, true, true, false, true, true, false, false, false, false, false, false, false, false, false, false, false, false, false] rfl rfl (any_of HT_.out (by kernel_rfl)) (fun _ _ _ h => h) (Or.inl ⟨by rfl, ?_⟩) ?_ ?_
 rotate_left
 ·intro w'
  go_simp
  with_reducible rfl
 rotate_left
 ·simp only [Act.put, List.setIfInBounds_toArray, List.set_cons_zero, List.set_cons_succ, i64_w, i32_w]
  rfl
 refine pure_ (i := 11) (N := some 76) (v := ?_) (a' := ?_) #[true, true, true, true, false, true, true, false, true, true, false, true, false, false, false, false, false, false, false, false, false, false, false] rfl rfl (any_of HT_.out (by kernel_rfl)) (fun _ _ _ h => h) (Or.inl ⟨by rfl, ?_⟩) ?_ ?_
 rotate_left
 ·intro w'
  go_simp
  with_reducible rfl
 rotate_left
 ·simp only [Act.put, List.setIfInBounds_toArray, List.set_cons_zero, List.set_cons_succ, i64_w, i32_w]
  rfl
 refine pure_ (i := 12) (N := some 77) (v := ?_) (a' := ?_) #[true, true, true, true, false, true, true, false, true, true, false, true, true, false, false, false, false, false, false, false, false, false, false] rfl rfl (any_of HT_.out (by kernel_rfl)) (fun _ _ _ h => h) (Or.inl ⟨by rfl, ?_⟩) ?_ ?_
 rotate_left
 ·intro w'
  go_simp
  with_reducible rfl
 rotate_left
 ·simp only [Act.put, List.setIfInBounds_toArray, List.set_cons_zero, List.set_cons_succ, i64_w, i32_w]
  rfl
 refine pure_ (i := 14) (N := some 79) (v := ?_) (a' := ?_) #[true, true, true, true, false, true, true, false, true, true, false, true, true, false, true, false, false, false, false, false, false, false, false] rfl rfl (any_of HT_.out (by kernel_rfl)) (fun _ _ _ h => h) (Or.inl ⟨by rfl, ?_⟩) ?_ ?_
 rotate_left
 ·intro w'
  go_simp
  with_reducible rfl
 rotate_left
 ·simp only [Act.put, List.setIfInBounds_toArray, List.set_cons_zero, List.set_cons_succ, i64_w, i32_w]
  rfl
 refine pure_ (i := 15) (N := some 80) (v := ?_) (a' := ?_) #[true, true, true, true, false, true, true, false, true, true, false, true, true, false, true, true, false, false, false, false, false, false, false] rfl rfl (any_of HT_.out (by kernel_rfl)) (fun _ _ _ h => h) (Or.inl ⟨by rfl, ?_⟩) ?_ ?_
 rotate_left
 ·intro w'
  go_simp
  with_reducible rfl
 rotate_left
 ·simp only [Act.put, List.setIfInBounds_toArray, List.set_cons_zero, List.set_cons_succ, i64_w, i32_w]
  rfl
 refine take_ (i := 4) (N := some 69) (v := ?_) (a' := ?_) #[true, true, true, true, true, true, true, false, true, true, false, true, true, false, true, true, false, false, false, false, false, false, false] rfl rfl (take_ofW HT_.out HW_.out (by kernel_rfl)) (fun _ _ _ h => h) (Or.inl ⟨by rfl, ?_⟩) hHeld ?_ ?_
 rotate_left
 ·rintro w' ⟨s0, s1, s2, s3, s4⟩
  go_simp
  with_reducible rfl
 rotate_left
 ·simp only [Act.put, List.setIfInBounds_toArray, List.set_cons_zero, List.set_cons_succ, i64_w, i32_w]
  rfl
 refine take_ (i := 7) (N := some 72) (v := ?_) (a' := ?_) #[true, true, true, true, true, true, true, true, true, true, false, true, true, false, true, true, false, false, false, false, false, false, false] rfl rfl (take_ofW HT_.out HW_.out (by kernel_rfl)) (fun _ _ _ h => h) (Or.inl ⟨by rfl, ?_⟩) hHeld ?_ ?_
 rotate_left
 ·rintro w' ⟨s0, s1, s2, s3, s4⟩
  go_simp
  with_reducible rfl
 rotate_left
 ·simp only [Act.put, List.setIfInBounds_toArray, List.set_cons_zero, List.set_cons_succ, i64_w, i32_w]
  rfl
 refine take_ (i := 10) (N := some 75) (v := ?_) (a' := ?_) #[true, true, true, true, true, true, true, true, true, true, true, true, true, false, true, true, false, false, false, false, false, false, false] rfl rfl (take_ofW HT_.out HW_.out (by kernel_rfl)) (fun _ _ _ h => h) (Or.inl ⟨by rfl, ?_⟩) hHeld ?_ ?_
 rotate_left
 ·rintro w' ⟨s0, s1, s2, s3, s4⟩
  go_simp
  with_reducible rfl
 rotate_left
 ·simp only [Act.put, List.setIfInBounds_toArray, List.set_cons_zero, List.set_cons_succ, i64_w, i32_w]
  rfl
 refine take_ (i := 13) (N := some 78) (v := ?_) (a' := ?_) #[true, true, true, true, true, true, true, true, true, true, true, true, true, true, true, true, false, false, false, false, false, false, false] rfl rfl (take_ofW HT_.out HW_.out (by kernel_rfl)) (fun _ _ _ h => h) (Or.inl ⟨by rfl, ?_⟩) hHeld ?_ ?_
 rotate_left
 ·rintro w' ⟨s0, s1, s2, s3, s4⟩
  go_simp
  with_reducible rfl
 rotate_left
 ·simp only [Act.put, List.setIfInBounds_toArray, List.set_cons_zero, List.set_cons_succ, i64_w, i32_w]
  rfl
 refine take_ (i := 16) (N := some 81) (v := ?_) (a' := ?_) #[true, true, true, true, true, true, true, true, true, true, true, true, true, true, true, true, true, false, false, false, false, false, false] rfl rfl (take_ofW HT_.out HW_.out (by kernel_rfl)) (fun _ _ _ h => h) (Or.inl ⟨by rfl, ?_⟩) hHeld ?_ ?_
 rotate_left
 ·rintro w' ⟨s0, s1, s2, s3, s4⟩
  go_simp
  with_reducible rfl
 rotate_left
 ·simp only [Act.put, List.setIfInBounds_toArray, List.set_cons_zero, List.set_cons_succ, i64_w, i32_w]
  rfl
 refine pure_ (i := 17) (N := some 82) (v := ?_) (a' := ?_) #[true, true, true, true, true, true, true, true, true, true, true, true, true, true, true, true, true, true, false, false, false, false, false] rfl rfl (any_of HT_.out (by kernel_rfl)) (fun _ _ _ h => h) (Or.inl ⟨by rfl, ?_⟩) ?_ ?_
 rotate_left
 ·intro w'
  go_simp
  with_reducible rfl
 rotate_left
 ·simp only [Act.put, List.setIfInBounds_toArray, List.set_cons_zero, List.set_cons_succ, i64_w, i32_w]
  rfl
 refine one_ (i := 18) (N := some 83) #[true, true, true, true, true, true, true, true, true, true, true, true, true, true, true, true, true, true, true, false, false, false, false] rfl rfl (one_of HT_.out (by kernel_rfl)) (by decide) (fun K hK => ?_)
 refine value_ (w1 := ?_) (v := ?_) (by rfl) rfl ?_ ?_
 rotate_left 2
 ·go_simp
  constructor
  ·rfl
  ·rfl
 refine hK.out _ _ ⟨((blk_cell (blk_below KD.out (below_alloc (Below.refl _ _) _)) 1).trans rfl), (pw_cell_below (below_alloc (Below.refl _ _) _) QD0.out), (pw_cell_below (below_alloc (Below.refl _ _) _) QD1.out), (pw_cell_below (below_alloc (Below.refl _ _) _) QD2.out), (pw_cell_below (below_alloc (Below.refl _ _) _) QD3.out)⟩ (fun hHeld => ?_)
 clear hK K
 refine norm_ (a' := ?_) ?_ ?_
 rotate_left
 ·show Act.put _ (some 83) _ = _
  simp only [Act.put, List.setIfInBounds_toArray, List.set_cons_zero, List.set_cons_succ, i64_w, i32_w]
  rfl
 refine last_ (i := 19) (N := some 84) #[true, true, true, true, true, true, true, true, true, true, true, true, true, true, true, true, true, true, true, true, false, false, false] rfl rfl (one_of HT_.out (by kernel_rfl)) (by decide) (fun K hK => ?_)
 refine Kd.R_append_step k133 (w0 := w0) w0.heap.size (by rfl) (.tmp 69) (.tmp 83) 23 133 (.agg #[.int .i64 0, .int .i64 0, .int .i64 0, .int .i64 0]) 32 rfl Tryd.underlying23 info133 rfl (by decide) (by omega) (.slice A2 L.length c2) L (⟨na, nb, nc, nd⟩ : S133) [.int .i64 na, .int .i64 nb, .int .i64 nc, .int .i64 nd] (fun _ => True) (fun _ => False) rfl rfl ?aP (fun _ hk => hk.elim) ?aF ?aO ?aB ?aS ?aL ?_
 case aP => exact k133_mkM _ _ _ ⟨na, nb, nc, nd⟩
 case aF => exact (fun k hk => trivial)
 case aO => exact RD1.out
 case aB => exact BB.out
 case aS => exact BB.out.size
 case aL => have := HLEN.out; omega
 intro v9 w9 ho hb9 hg9 hat9
 have HO9 := Aside0.mk ho
 have HB9 := Aside0.mk hb9
 have RX0 := Aside0.mk (Kd.R_mono (Kd.R_grown (Kd.R_apartR RD0.out RD1.out (by decide)) hg9 (fun _ h => h.2)) (fun _ _ => trivial))
 have RX2 := Aside0.mk (Kd.R_mono (Kd.R_grown (Kd.R_apartR RD2.out RD1.out (by decide)) hg9 (fun _ h => h.2)) (fun _ _ => trivial))
 have KX := Aside0.mk (blk_grown KD.out hg9 (Kd.R_ne RD1.out KD.out (by decide)))
 have KG := Aside0.mk (show ∀ k cs, w.heap[k]? = some (.cells cs 26 (0, 0)) → w9.heap[k]? = some (.cells cs 26 (0, 0)) from fun k cs h => blk_grown (KF.out k cs h) hg9 (Kd.R_ne RD1.out (KF.out k cs h) (by decide)))
 clear ho hb9 hg9 hat9
 obtain ⟨A9, c9, e9⟩ := Kd.R_slice HO9.out
 subst e9
 refine hK.out _ _ ?_
 clear hK K
 refine norm_ (a' := ?_) ?_ ?_
 rotate_left
 ·show Act.put _ (some 84) _ = _
  simp only [Act.put, List.setIfInBounds_toArray, List.set_cons_zero, List.set_cons_succ, i64_w, i32_w]
  rfl
 refine pure_ (i := 20) (N := some 85) (v := ?_) (a' := ?_) #[true, true, true, true, true, true, true, true, true, true, true, true, true, true, true, true, true, true, true, true, true, false, false] rfl rfl (any_of HT_.out (by kernel_rfl)) (fun _ _ _ h => h) (Or.inl ⟨by rfl, ?_⟩) ?_ ?_
 rotate_left
 ·intro w'
  go_simp
  with_reducible rfl
 rotate_left
 ·simp only [Act.put, List.setIfInBounds_toArray, List.set_cons_zero, List.set_cons_succ, i64_w, i32_w]
  rfl
 refine pure_ (i := 21) (N := some 86) (v := ?_) (a' := ?_) #[true, true, true, true, true, true, true, true, true, true, true, true, true, true, true, true, true, true, true, true, true, true, false] rfl rfl (any_of HT_.out (by kernel_rfl)) (fun _ _ _ h => h) (Or.inl ⟨by rfl, ?_⟩) ?_ ?_
 rotate_left
 ·intro w'
  go_simp
  with_reducible rfl
 rotate_left
 ·simp only [Act.put, List.setIfInBounds_toArray, List.set_cons_zero, List.set_cons_succ, i64_w, i32_w]
  rfl
 refine last_ (i := 22) (N := none) #[true, true, true, true, true, true, true, true, true, true, true, true, true, true, true, true, true, true, true, true, true, true, true] rfl rfl (one_of HT_.out (by kernel_rfl)) (by decide) (fun K hK => ?_)
 refine Hand.store_one (by rfl) rfl 23 (.tmp 86) (.tmp 84) rfl _ rfl rfl KX.out rfl size23 (show 1 + 1 ≤ 3 by decide) rfl (fun w7 hw7 => ?_)
 have T7 := Aside0.mk (show Top w0 w7 g P (L ++ [⟨na, nb, nc, nd⟩]) A by
  rw [hw7]
  exact ⟨_, _, _, blk_put KX.out 1 _ rfl, HG0.out, Kd.R_set RX0.out KX.out (by decide) 1 _, Kd.R_set HO9.out KX.out (by decide) 1 _, Kd.R_set RX2.out KX.out (by decide) 1 _⟩)
 have B7 := Aside0.mk (show Below w0.heap.size w0 w7 by rw [hw7]; exact below_set HB9.out HG0.out)
 have K7 := Aside0.mk (show Keep26 w w7 g by rw [hw7]; exact fun k cs hk h => blk_far (p := ⟨g, 1, none⟩) (KG.out k cs h) hk _)
 clear hw7
 refine hK.out _ _ ?_
 clear hK K
 refine done_ (done_of HT_.out (by kernel_rfl)) ?_
 go_wp2
 go_ret
 exact ⟨rfl, T7.out, B7.out, K7.out⟩
set_option maxHeartbeats 4000000 in
set_option maxRecDepth 100000 in
theorem add_acl (kN : Nat) (x : S130) (P : List Int) (L : List S133) (A : List S130) (s : ByteArray) (t : List ByteArray) (g : Nat) (w0 w : World) (hT : Top w0 w g P L A) (hB : Below w0.heap.size w0 w) (hG : Hand.Good true false w) (hs : strings_Split.f s ⟨#[32]⟩ = some t) (hl : 0 < t.length) (h0 : (rdOf ByteArray.empty t 0).toList = [97, 99, 108]) (hn : script_ace.f kN (t.drop 1) = some (x.f0, x.f1, x.f2, x.f3, x.f4.f0.f0, x.f4.f0.f1, x.f4.f1.f0, x.f4.f1.f1, x.f4.f2, x.f4.f3.f0, x.f4.f3.f1, x.f4.f4.f0, x.f4.f4.f1, 0)) (hlen : A.length ≤ 1000) :
  Calls Tryd.prog 79 #[.pointer (some ⟨g, 0, none⟩), .string s] w fun e w' => e = .returned (.int .i64 0) ∧ Top w0 w' g P L (A ++ [x]) ∧ Below w0.heap.size w0 w' ∧ Keep26 w w' g := by
 obtain ⟨vP, vL, vA, hb0, hg0, hr0, hr1, hr2⟩ := hT
 obtain ⟨A1, c1, e1⟩ := Kd.R_slice hr0
 subst e1
 obtain ⟨A2, c2, e2⟩ := Kd.R_slice hr1
 subst e2
 obtain ⟨A3, c3, e3⟩ := Kd.R_slice hr2
 subst e3
 have BK := Aside0.mk hb0
 have HG0 := Aside0.mk hg0
 have HR0 := Aside0.mk hr0
 have HR1 := Aside0.mk hr1
 have HR2 := Aside0.mk hr2
 clear hb0 hg0 hr0 hr1 hr2
 have HG := Aside0.mk hG
 have HB := Aside0.mk hB
 have HS := Aside0.mk hs
 have HL := Aside0.mk hl
 have HT0 := Aside0.mk h0
 have HN := Aside0.mk hn
 have HLEN := Aside0.mk hlen
 clear hG hB hs hl h0 hn hlen
 go_enter Tryd.func79, Tryd.ntmps79
 go_wp2_with (first
  | (go_at_call 84; (with_reducible refine (strings_Split.calls s ⟨#[32]⟩ t _ HG.out HS.out).mono ?_); rintro e w3 ⟨v3, rfl, hr, hb⟩; obtain ⟨A4, c4, e4⟩ := Kd.R_slice hr; subst e4; obtain ⟨_, hc4, hC4⟩ := Kd.R_reads' hr; have C4 := Aside0.mk hC4; have K4 := Aside0.mk hc4; have B3 := Aside0.mk hb; clear hr hb hc4 hC4; obtain ⟨ad, ead, hx⟩ := Kd.at_string C4.out 0 (by decide) (by have := HL.out; omega); cases ead; obtain ⟨t0, ht0⟩ : ∃ t0, t0 = rdOf ByteArray.empty t 0 := ⟨_, rfl⟩; rw [← ht0] at hx; replace hx : w3.cell? ad = some (.string t0) := hx; have T0 := Aside0.mk (show t0.toList = [97, 99, 108] by rw [ht0]; exact HT0.out); have v_dev : (t0.toList == [100, 101, 118, 105, 99, 101]) = false := (by rw [T0.out]; rfl); have v_lnk : (t0.toList == [108, 105, 110, 107]) = false := (by rw [T0.out]; rfl); have v_acl : (t0.toList == [97, 99, 108]) = true := (by rw [T0.out]; rfl); clear ht0; have lp : decide (0 < t.length) = true := decide_eq_true (by have := HL.out; omega); have lp1 : (0 < t.length) = True := eq_true (by have := HL.out; omega); have lp2 : decide ((0 : Int) < (t.length : Int)) = true := decide_eq_true (by have := HL.out; omega); obtain ⟨i024, hi024, _, hsz24, _⟩ := info_parts info9; obtain ⟨A5, hcut5, hA5, hC5⟩ := print_drop_of (P := Tryd.prog) Value.string (⟨#[]⟩ : ByteArray) 30 9 .i64 Tryd.underlying30 hi024 hsz24 (some ad) c4 t 1 (by decide) (by have := HL.out; omega) K4.out; simp only [show (1 : Int).toNat = 1 from rfl] at hcut5 hC5 hA5; have C5' := Kd.C_of_reads (h1 := fun _ => rfl) (hA5 _ (Kd.reads_of_C C4.out)); have HN5' := HN.out; clear hA5; generalize t.drop 1 = t5 at hcut5 hC5 C5' HN5'; generalize c4 - 1 = c5 at hcut5 hC5; have C5 : Aside0 (Kd.C Kd.string _ A5 t5.length t5) := ⟨C5'⟩; have HN5 := Aside0.mk HN5'; have K5 := Aside0.mk hC5; clear hC5 C5' HN5' hi024 hsz24)
  | (go_at_call 109; (with_reducible refine (script_ace.calls kN A5 c5 t5 x.f0 x.f1 x.f2 x.f3 x.f4.f0.f0 x.f4.f0.f1 x.f4.f1.f0 x.f4.f1.f1 x.f4.f2 x.f4.f3.f0 x.f4.f3.f1 x.f4.f4.f0 x.f4.f4.f1 0 _ (Hand.Good.below true false HG.out B3.out rfl rfl) C5.out K5.out HN5.out).mono ?_); rintro e w4 ⟨rfl, hb⟩; have B4 := Aside0.mk (below_step B3.out hb); clear hb))
 have BF := Aside0.mk (below_alloc B4.out (.cells #[.int .i64 x.f0, .int .i64 x.f1, .bool x.f2, .bool x.f3, .int .u32 x.f4.f0.f0, .int .i64 x.f4.f0.f1, .int .u32 x.f4.f1.f0, .int .i64 x.f4.f1.f1, .int .i64 x.f4.f2, .int .u16 x.f4.f3.f0, .int .u16 x.f4.f3.f1, .int .u16 x.f4.f4.f0, .int .u16 x.f4.f4.f1] 130 (0, 0)))
 have FF := Aside0.mk (blk_new w4 (.cells #[.int .i64 x.f0, .int .i64 x.f1, .bool x.f2, .bool x.f3, .int .u32 x.f4.f0.f0, .int .i64 x.f4.f0.f1, .int .u32 x.f4.f1.f0, .int .i64 x.f4.f1.f1, .int .i64 x.f4.f2, .int .u16 x.f4.f3.f0, .int .u16 x.f4.f3.f1, .int .u16 x.f4.f4.f0, .int .u16 x.f4.f4.f1] 130 (0, 0)))
 have XT := Aside0.mk (show Below w.heap.size w (w4.alloc (.cells #[.int .i64 x.f0, .int .i64 x.f1, .bool x.f2, .bool x.f3, .int .u32 x.f4.f0.f0, .int .i64 x.f4.f0.f1, .int .u32 x.f4.f1.f0, .int .i64 x.f4.f1.f1, .int .i64 x.f4.f2, .int .u16 x.f4.f3.f0, .int .u16 x.f4.f3.f1, .int .u16 x.f4.f4.f0, .int .u16 x.f4.f4.f1] 130 (0, 0))) from BF.out)
 generalize w4.heap.size = gf at FF ⊢
 generalize w4.alloc (.cells #[.int .i64 x.f0, .int .i64 x.f1, .bool x.f2, .bool x.f3, .int .u32 x.f4.f0.f0, .int .i64 x.f4.f0.f1, .int .u32 x.f4.f1.f0, .int .i64 x.f4.f1.f1, .int .i64 x.f4.f2, .int .u16 x.f4.f3.f0, .int .u16 x.f4.f3.f1, .int .u16 x.f4.f4.f0, .int .u16 x.f4.f4.f1] 130 (0, 0)) = wf at BF FF XT ⊢
 have BD := Aside0.mk (below_drew1 BF.out)
 have KD := Aside0.mk (blk_drew (blk_below BK.out BF.out))
 have RD0 := Aside0.mk (Kd.R_drew (Kd.R_below HR0.out BF.out))
 have RD1 := Aside0.mk (Kd.R_drew (Kd.R_below HR1.out BF.out))
 have RD2 := Aside0.mk (Kd.R_drew (Kd.R_below HR2.out BF.out))
 have KF := Aside0.mk (show ∀ k cs, w.heap[k]? = some (.cells cs 26 (0, 0)) → wf.drew.heap[k]? = some (.cells cs 26 (0, 0)) from fun k cs h => blk_drew (blk_below h BF.out))
 have hq0 : wf.drew.cell? ⟨g, 2, none⟩ = some (.slice A3 A.length c3) := (blk_cell KD.out 2).trans rfl
 have FD := Aside0.mk (blk_drew FF.out)
 have hq1 : wf.drew.cell? ⟨gf, 0, none⟩ = some (.int .i64 x.f0) := (blk_cell FD.out 0).trans rfl
 have hq2 : wf.drew.cell? ⟨gf, 1, none⟩ = some (.int .i64 x.f1) := (blk_cell FD.out 1).trans rfl
 have hq3 : wf.drew.cell? ⟨gf, 2, none⟩ = some (.bool x.f2) := (blk_cell FD.out 2).trans rfl
 have hq4 : wf.drew.cell? ⟨gf, 3, none⟩ = some (.bool x.f3) := (blk_cell FD.out 3).trans rfl
 have hq5 : wf.drew.cell? ⟨gf, 4, none⟩ = some (.int .u32 x.f4.f0.f0) := (blk_cell FD.out 4).trans rfl
 have hq6 : wf.drew.cell? ⟨gf, 5, none⟩ = some (.int .i64 x.f4.f0.f1) := (blk_cell FD.out 5).trans rfl
 have hq7 : wf.drew.cell? ⟨gf, 6, none⟩ = some (.int .u32 x.f4.f1.f0) := (blk_cell FD.out 6).trans rfl
 have hq8 : wf.drew.cell? ⟨gf, 7, none⟩ = some (.int .i64 x.f4.f1.f1) := (blk_cell FD.out 7).trans rfl
 have hq9 : wf.drew.cell? ⟨gf, 8, none⟩ = some (.int .i64 x.f4.f2) := (blk_cell FD.out 8).trans rfl
 have hq10 : wf.drew.cell? ⟨gf, 9, none⟩ = some (.int .u16 x.f4.f3.f0) := (blk_cell FD.out 9).trans rfl
 have hq11 : wf.drew.cell? ⟨gf, 10, none⟩ = some (.int .u16 x.f4.f3.f1) := (blk_cell FD.out 10).trans rfl
 have hq12 : wf.drew.cell? ⟨gf, 11, none⟩ = some (.int .u16 x.f4.f4.f0) := (blk_cell FD.out 11).trans rfl
 have hq13 : wf.drew.cell? ⟨gf, 12, none⟩ = some (.int .u16 x.f4.f4.f1) := (blk_cell FD.out 12).trans rfl
 refine start_ (n := 11) (S := fun w' => w'.cell? ⟨g, 2, none⟩ = some (.slice A3 A.length c3) ∧ w'.cell? ⟨gf, 0, none⟩ = some (.int .i64 x.f0) ∧ w'.cell? ⟨gf, 1, none⟩ = some (.int .i64 x.f1) ∧ w'.cell? ⟨gf, 2, none⟩ = some (.bool x.f2) ∧ w'.cell? ⟨gf, 3, none⟩ = some (.bool x.f3) ∧ w'.cell? ⟨gf, 4, none⟩ = some (.int .u32 x.f4.f0.f0) ∧ w'.cell? ⟨gf, 5, none⟩ = some (.int .i64 x.f4.f0.f1) ∧ w'.cell? ⟨gf, 6, none⟩ = some (.int .u32 x.f4.f1.f0) ∧ w'.cell? ⟨gf, 7, none⟩ = some (.int .i64 x.f4.f1.f1) ∧ w'.cell? ⟨gf, 8, none⟩ = some (.int .i64 x.f4.f2) ∧ w'.cell? ⟨gf, 9, none⟩ = some (.int .u16 x.f4.f3.f0) ∧ w'.cell? ⟨gf, 10, none⟩ = some (.int .u16 x.f4.f3.f1) ∧ w'.cell? ⟨gf, 11, none⟩ = some (.int .u16 x.f4.f4.f0) ∧ w'.cell? ⟨gf, 12, none⟩ = some (.int .u16 x.f4.f4.f1)) (ds := [7, 10]) #[false, false, false, false, false, false, false, false, false, false, false] (by kernel_rfl) rfl rfl ⟨hq0, hq1, hq2, hq3, hq4, hq5, hq6, hq7, hq8, hq9, hq10, hq11, hq12, hq13⟩ (fun hHeld => ?_)
 refine with_tabW add_.tab22 add_.bits22 (fun HT_ HW_ => ?_)
 clear hq0 hq1 hq2 hq3 hq4 hq5 hq6 hq7 hq8 hq9 hq10 hq11 hq12 hq13
 generalize wf.drew = wd at BD KD KF RD0 RD1 RD2 FD hHeld ⊢
 have BB := Aside0.mk (below_step HB.out BD.out)
 refine pure_ (i := 0) (N := some 98) (v := ?_) (a' := ?_) #[true, false, false, false, false, false, false, false, false, false, false] rfl rfl (any_of HT_.out (by kernel_rfl)) (fun _ _ _ h => h) (Or.inl ⟨by rfl, ?_⟩) ?_ ?_
 rotate_left
 ·intro w'
  go_simp
  with_reducible rfl
 rotate_left
 ·simp only [Act.put, List.setIfInBounds_toArray, List.set_cons_zero, List.set_cons_succ, i64_w, i32_w]
  rfl
 refine pure_ (i := 1) (N := some 99) (v := ?_) (a' := ?_) #[true, true, false, false, false, false, false, false, false, false, false] rfl rfl (any_of HT_.out (by kernel_rfl)) (fun _ _ _ h => h) (Or.inl ⟨by rfl, ?_⟩) ?_ ?_
 rotate_left
 ·intro w'
  go_simp
  with_reducible rfl
 rotate_left
 ·simp only [Act.put, List.setIfInBounds_toArray, List.set_cons_zero, List.set_cons_succ, i64_w, i32_w]
  rfl
 refine pure_ (i := 2) (N := some 100) (v := ?_) (a' := ?_) #[true, true, true, false, false, false, false, false, false, false, false] rfl rfl (any_of HT_.out (by kernel_rfl)) (fun _ _ _ h => h) (Or.inl ⟨by rfl, ?_⟩) ?_ ?_
 rotate_left
 ·intro w'
  go_simp
  with_reducible rfl
 rotate_left
 ·simp only [Act.put, List.setIfInBounds_toArray, List.set_cons_zero, List.set_cons_succ, i64_w, i32_w]
  rfl
 refine pure_ (i := 3) (N := some 101) (v := ?_) (a' := ?_) #[true, true, true, true, false, false, false, false, false, false, false] rfl rfl (any_of HT_.out (by kernel_rfl)) (fun _ _ _ h => h) (Or.inl ⟨by rfl, ?_⟩) ?_ ?_
 rotate_left
 ·intro w'
  go_simp
  with_reducible rfl
 rotate_left
 ·simp only [Act.put, List.setIfInBounds_toArray, List.set_cons_zero, List.set_cons_succ, i64_w, i32_w]
  rfl
 refine take_ (i := 4) (N := some 102) (v := ?_) (a' := ?_) #[true, true, true, true, true, false, false, false, false, false, false] rfl rfl (take_ofW HT_.out HW_.out (by kernel_rfl)) (fun _ _ _ h => h) (Or.inl ⟨by rfl, ?_⟩) hHeld ?_ ?_
 rotate_left
 ·rintro w' ⟨s0, s1, s2, s3, s4, s5, s6, s7, s8, s9, s10, s11, s12, s13⟩
  go_simp
  with_reducible rfl
 rotate_left
 ·simp only [Act.put, List.setIfInBounds_toArray, List.set_cons_zero, List.set_cons_succ, i64_w, i32_w]
  rfl
 refine take_ (i := 5) (N := some 103) (v := ?_) (a' := ?_) #[true, true, true, true, true, true, false, false, false, false, false] rfl rfl (take_ofW HT_.out HW_.out (by kernel_rfl)) (fun _ _ _ h => h) (Or.inl ⟨by rfl, ?_⟩) hHeld ?_ ?_
 rotate_left
 ·rintro w' ⟨s0, s1, s2, s3, s4, s5, s6, s7, s8, s9, s10, s11, s12, s13⟩
  go_simp
  with_reducible rfl
 rotate_left
 ·simp only [Act.put, List.setIfInBounds_toArray, List.set_cons_zero, List.set_cons_succ, i64_w, i32_w]
  rfl
 refine one_ (i := 6) (N := some 104) #[true, true, true, true, true, true, true, false, false, false, false] rfl rfl (one_of HT_.out (by kernel_rfl)) (by decide) (fun K hK => ?_)
 refine value_ (w1 := ?_) (v := ?_) (by rfl) rfl ?_ ?_
 rotate_left 2
 ·go_simp
  constructor
  ·rfl
  ·rfl
 refine hK.out _ _ ⟨((blk_cell (blk_below KD.out (below_alloc (Below.refl _ _) _)) 2).trans rfl), ((blk_cell (blk_below FD.out (below_alloc (Below.refl _ _) _)) 0).trans rfl), ((blk_cell (blk_below FD.out (below_alloc (Below.refl _ _) _)) 1).trans rfl), ((blk_cell (blk_below FD.out (below_alloc (Below.refl _ _) _)) 2).trans rfl), ((blk_cell (blk_below FD.out (below_alloc (Below.refl _ _) _)) 3).trans rfl), ((blk_cell (blk_below FD.out (below_alloc (Below.refl _ _) _)) 4).trans rfl), ((blk_cell (blk_below FD.out (below_alloc (Below.refl _ _) _)) 5).trans rfl), ((blk_cell (blk_below FD.out (below_alloc (Below.refl _ _) _)) 6).trans rfl), ((blk_cell (blk_below FD.out (below_alloc (Below.refl _ _) _)) 7).trans rfl), ((blk_cell (blk_below FD.out (below_alloc (Below.refl _ _) _)) 8).trans rfl), ((blk_cell (blk_below FD.out (below_alloc (Below.refl _ _) _)) 9).trans rfl), ((blk_cell (blk_below FD.out (below_alloc (Below.refl _ _) _)) 10).trans rfl), ((blk_cell (blk_below FD.out (below_alloc (Below.refl _ _) _)) 11).trans rfl), ((blk_cell (blk_below FD.out (below_alloc (Below.refl _ _) _)) 12).trans rfl)⟩ (fun hHeld => ?_)
 clear hK K
 refine norm_ (a' := ?_) ?_ ?_
 rotate_left
 ·show Act.put _ (some 104) _ = _
  simp only [Act.put, List.setIfInBounds_toArray, List.set_cons_zero, List.set_cons_succ, i64_w, i32_w]
  rfl
 refine last_ (i := 7) (N := some 105) #[true, true, true, true, true, true, true, true, false, false, false] rfl rfl (one_of HT_.out (by kernel_rfl)) (by decide) (fun K hK => ?_)
 refine Kd.R_append_step k130 (w0 := w0) w0.heap.size (by rfl) (.tmp 102) (.tmp 104) 24 130 (.agg #[.int .i64 0, .int .i64 0, .bool false, .bool false, .int .u32 0, .int .i64 0, .int .u32 0, .int .i64 0, .int .i64 0, .int .u16 0, .int .u16 0, .int .u16 0, .int .u16 0]) 72 rfl Tryd.underlying24 info130 rfl (by decide) (by omega) (.slice A3 A.length c3) A x [.int .i64 x.f0, .int .i64 x.f1, .bool x.f2, .bool x.f3, .int .u32 x.f4.f0.f0, .int .i64 x.f4.f0.f1, .int .u32 x.f4.f1.f0, .int .i64 x.f4.f1.f1, .int .i64 x.f4.f2, .int .u16 x.f4.f3.f0, .int .u16 x.f4.f3.f1, .int .u16 x.f4.f4.f0, .int .u16 x.f4.f4.f1] (fun _ => True) (fun _ => False) rfl rfl ?aP (fun _ hk => hk.elim) ?aF ?aO ?aB ?aS ?aL ?_
 case aP => exact k130_mkM _ _ _ x
 case aF => exact (fun k hk => trivial)
 case aO => exact RD2.out
 case aB => exact BB.out
 case aS => exact BB.out.size
 case aL => have := HLEN.out; omega
 intro v9 w9 ho hb9 hg9 hat9
 have HO9 := Aside0.mk ho
 have HB9 := Aside0.mk hb9
 have RX0 := Aside0.mk (Kd.R_mono (Kd.R_grown (Kd.R_apartR RD0.out RD2.out (by decide)) hg9 (fun _ h => h.2)) (fun _ _ => trivial))
 have RX1 := Aside0.mk (Kd.R_mono (Kd.R_grown (Kd.R_apartR RD1.out RD2.out (by decide)) hg9 (fun _ h => h.2)) (fun _ _ => trivial))
 have KX := Aside0.mk (blk_grown KD.out hg9 (Kd.R_ne RD2.out KD.out (by decide)))
 have KG := Aside0.mk (show ∀ k cs, w.heap[k]? = some (.cells cs 26 (0, 0)) → w9.heap[k]? = some (.cells cs 26 (0, 0)) from fun k cs h => blk_grown (KF.out k cs h) hg9 (Kd.R_ne RD2.out (KF.out k cs h) (by decide)))
 clear ho hb9 hg9 hat9
 obtain ⟨A9, c9, e9⟩ := Kd.R_slice HO9.out
 subst e9
 refine hK.out _ _ ?_
 clear hK K
 refine norm_ (a' := ?_) ?_ ?_
 rotate_left
 ·show Act.put _ (some 105) _ = _
  simp only [Act.put, List.setIfInBounds_toArray, List.set_cons_zero, List.set_cons_succ, i64_w, i32_w]
  rfl
 refine pure_ (i := 8) (N := some 106) (v := ?_) (a' := ?_) #[true, true, true, true, true, true, true, true, true, false, false] rfl rfl (any_of HT_.out (by kernel_rfl)) (fun _ _ _ h => h) (Or.inl ⟨by rfl, ?_⟩) ?_ ?_
 rotate_left
 ·intro w'
  go_simp
  with_reducible rfl
 rotate_left
 ·simp only [Act.put, List.setIfInBounds_toArray, List.set_cons_zero, List.set_cons_succ, i64_w, i32_w]
  rfl
 refine pure_ (i := 9) (N := some 107) (v := ?_) (a' := ?_) #[true, true, true, true, true, true, true, true, true, true, false] rfl rfl (any_of HT_.out (by kernel_rfl)) (fun _ _ _ h => h) (Or.inl ⟨by rfl, ?_⟩) ?_ ?_
 rotate_left
 ·intro w'
  go_simp
  with_reducible rfl
 rotate_left
 ·simp only [Act.put, List.setIfInBounds_toArray, List.set_cons_zero, List.set_cons_succ, i64_w, i32_w]
  rfl
 refine last_ (i := 10) (N := none) #[true, true, true, true, true, true, true, true, true, true, true] rfl rfl (one_of HT_.out (by kernel_rfl)) (by decide) (fun K hK => ?_)
 refine Hand.store_one (by rfl) rfl 24 (.tmp 107) (.tmp 105) rfl _ rfl rfl KX.out rfl size24 (show 2 + 1 ≤ 3 by decide) rfl (fun w7 hw7 => ?_)
 have T7 := Aside0.mk (show Top w0 w7 g P L (A ++ [x]) by
  rw [hw7]
  exact ⟨_, _, _, blk_put KX.out 2 _ rfl, HG0.out, Kd.R_set RX0.out KX.out (by decide) 2 _, Kd.R_set RX1.out KX.out (by decide) 2 _, Kd.R_set HO9.out KX.out (by decide) 2 _⟩)
 have B7 := Aside0.mk (show Below w0.heap.size w0 w7 by rw [hw7]; exact below_set HB9.out HG0.out)
 have K7 := Aside0.mk (show Keep26 w w7 g by rw [hw7]; exact fun k cs hk h => blk_far (p := ⟨g, 2, none⟩) (KG.out k cs h) hk _)
 clear hw7
 refine hK.out _ _ ?_
 clear hK K
 refine done_ (done_of HT_.out (by kernel_rfl)) ?_
 go_wp2
 go_ret
 exact ⟨rfl, T7.out, B7.out, K7.out⟩
set_option maxHeartbeats 4000000 in
set_option maxRecDepth 100000 in
theorem add_dev_err (kN : Nat) (ns : List Int) (er : Int) (s : ByteArray) (t : List ByteArray) (g : Nat) (w0 w : World) (hB : Below w0.heap.size w0 w) (hG : Hand.Good true false w) (hs : strings_Split.f s ⟨#[32]⟩ = some t) (hl : 0 < t.length) (h0 : (rdOf ByteArray.empty t 0).toList = [100, 101, 118, 105, 99, 101]) (hn : script_numbers.f kN (t.drop 1) = some (ns, er)) (he : er ≠ 0) :
  Calls Tryd.prog 79 #[.pointer (some ⟨g, 0, none⟩), .string s] w fun e w' => e = .returned (.int .i64 er) ∧ Below w.heap.size w w' := by
 have HG := Aside0.mk hG
 have HB := Aside0.mk hB
 have HS := Aside0.mk hs
 have HL := Aside0.mk hl
 have HT0 := Aside0.mk h0
 have HN := Aside0.mk hn
 have he1 : (er != 0) = true := bne_iff_ne.2 he
 have he2 : (er == 0) = false := beq_eq_false_iff_ne.2 he
 clear hG hB hs hl h0 hn he
 go_enter Tryd.func79, Tryd.ntmps79
 go_wp2_with (first
  | (go_at_call 84; (with_reducible refine (strings_Split.calls s ⟨#[32]⟩ t _ HG.out HS.out).mono ?_); rintro e w3 ⟨v3, rfl, hr, hb⟩; obtain ⟨A4, c4, e4⟩ := Kd.R_slice hr; subst e4; obtain ⟨_, hc4, hC4⟩ := Kd.R_reads' hr; have C4 := Aside0.mk hC4; have K4 := Aside0.mk hc4; have B3 := Aside0.mk hb; clear hr hb hc4 hC4; obtain ⟨ad, ead, hx⟩ := Kd.at_string C4.out 0 (by decide) (by have := HL.out; omega); cases ead; obtain ⟨t0, ht0⟩ : ∃ t0, t0 = rdOf ByteArray.empty t 0 := ⟨_, rfl⟩; rw [← ht0] at hx; replace hx : w3.cell? ad = some (.string t0) := hx; have T0 := Aside0.mk (show t0.toList = [100, 101, 118, 105, 99, 101] by rw [ht0]; exact HT0.out); have v_dev : (t0.toList == [100, 101, 118, 105, 99, 101]) = true := (by rw [T0.out]; rfl); have v_lnk : (t0.toList == [108, 105, 110, 107]) = false := (by rw [T0.out]; rfl); have v_acl : (t0.toList == [97, 99, 108]) = false := (by rw [T0.out]; rfl); clear ht0; have lp : decide (0 < t.length) = true := decide_eq_true (by have := HL.out; omega); have lp1 : (0 < t.length) = True := eq_true (by have := HL.out; omega); have lp2 : decide ((0 : Int) < (t.length : Int)) = true := decide_eq_true (by have := HL.out; omega); obtain ⟨i024, hi024, _, hsz24, _⟩ := info_parts info9; obtain ⟨A5, hcut5, hA5, hC5⟩ := print_drop_of (P := Tryd.prog) Value.string (⟨#[]⟩ : ByteArray) 30 9 .i64 Tryd.underlying30 hi024 hsz24 (some ad) c4 t 1 (by decide) (by have := HL.out; omega) K4.out; simp only [show (1 : Int).toNat = 1 from rfl] at hcut5 hC5 hA5; have C5' := Kd.C_of_reads (h1 := fun _ => rfl) (hA5 _ (Kd.reads_of_C C4.out)); have HN5' := HN.out; clear hA5; generalize t.drop 1 = t5 at hcut5 hC5 C5' HN5'; generalize c4 - 1 = c5 at hcut5 hC5; have C5 : Aside0 (Kd.C Kd.string _ A5 t5.length t5) := ⟨C5'⟩; have HN5 := Aside0.mk HN5'; have K5 := Aside0.mk hC5; clear hC5 C5' HN5' hi024 hsz24)
  | (go_at_call 108; (with_reducible refine (script_numbers.calls kN A5 c5 t5 ns er _ C5.out K5.out HN5.out).mono ?_); rintro e w4 ⟨v4, rfl, hr, hb⟩; obtain ⟨An, cn, en⟩ := Kd.R_slice hr; subst en; have RN := Aside0.mk hr; have B4 := Aside0.mk (below_step B3.out hb); clear hr hb))
 go_ret
 exact ⟨rfl, B4.out⟩
set_option maxHeartbeats 4000000 in
set_option maxRecDepth 100000 in
theorem add_dev_few (kN : Nat) (ns : List Int) (s : ByteArray) (t : List ByteArray) (g : Nat) (w0 w : World) (hB : Below w0.heap.size w0 w) (hG : Hand.Good true false w) (hs : strings_Split.f s ⟨#[32]⟩ = some t) (hl : 0 < t.length) (h0 : (rdOf ByteArray.empty t 0).toList = [100, 101, 118, 105, 99, 101]) (hn : script_numbers.f kN (t.drop 1) = some (ns, 0)) (he : ns.length ≠ 1) :
  Calls Tryd.prog 79 #[.pointer (some ⟨g, 0, none⟩), .string s] w fun e w' => e = .returned (.int .i64 6) ∧ Below w.heap.size w w' := by
 have HG := Aside0.mk hG
 have HB := Aside0.mk hB
 have HS := Aside0.mk hs
 have HL := Aside0.mk hl
 have HT0 := Aside0.mk h0
 have HN := Aside0.mk hn
 have he1 : ((ns.length : Int) != 1) = true := bne_iff_ne.2 (by omega)
 have he2 : ((ns.length : Int) == 1) = false := beq_eq_false_iff_ne.2 (by omega)
 clear hG hB hs hl h0 hn he
 go_enter Tryd.func79, Tryd.ntmps79
 go_wp2_with (first
  | (go_at_call 84; (with_reducible refine (strings_Split.calls s ⟨#[32]⟩ t _ HG.out HS.out).mono ?_); rintro e w3 ⟨v3, rfl, hr, hb⟩; obtain ⟨A4, c4, e4⟩ := Kd.R_slice hr; subst e4; obtain ⟨_, hc4, hC4⟩ := Kd.R_reads' hr; have C4 := Aside0.mk hC4; have K4 := Aside0.mk hc4; have B3 := Aside0.mk hb; clear hr hb hc4 hC4; obtain ⟨ad, ead, hx⟩ := Kd.at_string C4.out 0 (by decide) (by have := HL.out; omega); cases ead; obtain ⟨t0, ht0⟩ : ∃ t0, t0 = rdOf ByteArray.empty t 0 := ⟨_, rfl⟩; rw [← ht0] at hx; replace hx : w3.cell? ad = some (.string t0) := hx; have T0 := Aside0.mk (show t0.toList = [100, 101, 118, 105, 99, 101] by rw [ht0]; exact HT0.out); have v_dev : (t0.toList == [100, 101, 118, 105, 99, 101]) = true := (by rw [T0.out]; rfl); have v_lnk : (t0.toList == [108, 105, 110, 107]) = false := (by rw [T0.out]; rfl); have v_acl : (t0.toList == [97, 99, 108]) = false := (by rw [T0.out]; rfl); clear ht0; have lp : decide (0 < t.length) = true := decide_eq_true (by have := HL.out; omega); have lp1 : (0 < t.length) = True := eq_true (by have := HL.out; omega); have lp2 : decide ((0 : Int) < (t.length : Int)) = true := decide_eq_true (by have := HL.out; omega); obtain ⟨i024, hi024, _, hsz24, _⟩ := info_parts info9; obtain ⟨A5, hcut5, hA5, hC5⟩ := print_drop_of (P := Tryd.prog) Value.string (⟨#[]⟩ : ByteArray) 30 9 .i64 Tryd.underlying30 hi024 hsz24 (some ad) c4 t 1 (by decide) (by have := HL.out; omega) K4.out; simp only [show (1 : Int).toNat = 1 from rfl] at hcut5 hC5 hA5; have C5' := Kd.C_of_reads (h1 := fun _ => rfl) (hA5 _ (Kd.reads_of_C C4.out)); have HN5' := HN.out; clear hA5; generalize t.drop 1 = t5 at hcut5 hC5 C5' HN5'; generalize c4 - 1 = c5 at hcut5 hC5; have C5 : Aside0 (Kd.C Kd.string _ A5 t5.length t5) := ⟨C5'⟩; have HN5 := Aside0.mk HN5'; have K5 := Aside0.mk hC5; clear hC5 C5' HN5' hi024 hsz24)
  | (go_at_call 108; (with_reducible refine (script_numbers.calls kN A5 c5 t5 ns 0 _ C5.out K5.out HN5.out).mono ?_); rintro e w4 ⟨v4, rfl, hr, hb⟩; obtain ⟨An, cn, en⟩ := Kd.R_slice hr; subst en; have RN := Aside0.mk hr; have B4 := Aside0.mk (below_step B3.out hb); clear hr hb))
 go_ret
 exact ⟨rfl, B4.out⟩
set_option maxHeartbeats 4000000 in
set_option maxRecDepth 100000 in
theorem add_lnk_err (kN : Nat) (ns : List Int) (er : Int) (s : ByteArray) (t : List ByteArray) (g : Nat) (w0 w : World) (hB : Below w0.heap.size w0 w) (hG : Hand.Good true false w) (hs : strings_Split.f s ⟨#[32]⟩ = some t) (hl : 0 < t.length) (h0 : (rdOf ByteArray.empty t 0).toList = [108, 105, 110, 107]) (hn : script_numbers.f kN (t.drop 1) = some (ns, er)) (he : er ≠ 0) :
  Calls Tryd.prog 79 #[.pointer (some ⟨g, 0, none⟩), .string s] w fun e w' => e = .returned (.int .i64 er) ∧ Below w.heap.size w w' := by
 have HG := Aside0.mk hG
 have HB := Aside0.mk hB
 have HS := Aside0.mk hs
 have HL := Aside0.mk hl
 have HT0 := Aside0.mk h0
 have HN := Aside0.mk hn
 have he1 : (er != 0) = true := bne_iff_ne.2 he
 have he2 : (er == 0) = false := beq_eq_false_iff_ne.2 he
 clear hG hB hs hl h0 hn he
 go_enter Tryd.func79, Tryd.ntmps79
 go_wp2_with (first
  | (go_at_call 84; (with_reducible refine (strings_Split.calls s ⟨#[32]⟩ t _ HG.out HS.out).mono ?_); rintro e w3 ⟨v3, rfl, hr, hb⟩; obtain ⟨A4, c4, e4⟩ := Kd.R_slice hr; subst e4; obtain ⟨_, hc4, hC4⟩ := Kd.R_reads' hr; have C4 := Aside0.mk hC4; have K4 := Aside0.mk hc4; have B3 := Aside0.mk hb; clear hr hb hc4 hC4; obtain ⟨ad, ead, hx⟩ := Kd.at_string C4.out 0 (by decide) (by have := HL.out; omega); cases ead; obtain ⟨t0, ht0⟩ : ∃ t0, t0 = rdOf ByteArray.empty t 0 := ⟨_, rfl⟩; rw [← ht0] at hx; replace hx : w3.cell? ad = some (.string t0) := hx; have T0 := Aside0.mk (show t0.toList = [108, 105, 110, 107] by rw [ht0]; exact HT0.out); have v_dev : (t0.toList == [100, 101, 118, 105, 99, 101]) = false := (by rw [T0.out]; rfl); have v_lnk : (t0.toList == [108, 105, 110, 107]) = true := (by rw [T0.out]; rfl); have v_acl : (t0.toList == [97, 99, 108]) = false := (by rw [T0.out]; rfl); clear ht0; have lp : decide (0 < t.length) = true := decide_eq_true (by have := HL.out; omega); have lp1 : (0 < t.length) = True := eq_true (by have := HL.out; omega); have lp2 : decide ((0 : Int) < (t.length : Int)) = true := decide_eq_true (by have := HL.out; omega); obtain ⟨i024, hi024, _, hsz24, _⟩ := info_parts info9; obtain ⟨A5, hcut5, hA5, hC5⟩ := print_drop_of (P := Tryd.prog) Value.string (⟨#[]⟩ : ByteArray) 30 9 .i64 Tryd.underlying30 hi024 hsz24 (some ad) c4 t 1 (by decide) (by have := HL.out; omega) K4.out; simp only [show (1 : Int).toNat = 1 from rfl] at hcut5 hC5 hA5; have C5' := Kd.C_of_reads (h1 := fun _ => rfl) (hA5 _ (Kd.reads_of_C C4.out)); have HN5' := HN.out; clear hA5; generalize t.drop 1 = t5 at hcut5 hC5 C5' HN5'; generalize c4 - 1 = c5 at hcut5 hC5; have C5 : Aside0 (Kd.C Kd.string _ A5 t5.length t5) := ⟨C5'⟩; have HN5 := Aside0.mk HN5'; have K5 := Aside0.mk hC5; clear hC5 C5' HN5' hi024 hsz24)
  | (go_at_call 108; (with_reducible refine (script_numbers.calls kN A5 c5 t5 ns er _ C5.out K5.out HN5.out).mono ?_); rintro e w4 ⟨v4, rfl, hr, hb⟩; obtain ⟨An, cn, en⟩ := Kd.R_slice hr; subst en; have RN := Aside0.mk hr; have B4 := Aside0.mk (below_step B3.out hb); clear hr hb))
 go_ret
 exact ⟨rfl, B4.out⟩
set_option maxHeartbeats 4000000 in
set_option maxRecDepth 100000 in
theorem add_lnk_few (kN : Nat) (ns : List Int) (s : ByteArray) (t : List ByteArray) (g : Nat) (w0 w : World) (hB : Below w0.heap.size w0 w) (hG : Hand.Good true false w) (hs : strings_Split.f s ⟨#[32]⟩ = some t) (hl : 0 < t.length) (h0 : (rdOf ByteArray.empty t 0).toList = [108, 105, 110, 107]) (hn : script_numbers.f kN (t.drop 1) = some (ns, 0)) (he : ns.length ≠ 4) :
  Calls Tryd.prog 79 #[.pointer (some ⟨g, 0, none⟩), .string s] w fun e w' => e = .returned (.int .i64 6) ∧ Below w.heap.size w w' := by
 have HG := Aside0.mk hG
 have HB := Aside0.mk hB
 have HS := Aside0.mk hs
 have HL := Aside0.mk hl
 have HT0 := Aside0.mk h0
 have HN := Aside0.mk hn
 have he1 : ((ns.length : Int) != 4) = true := bne_iff_ne.2 (by omega)
 have he2 : ((ns.length : Int) == 4) = false := beq_eq_false_iff_ne.2 (by omega)
 clear hG hB hs hl h0 hn he
 go_enter Tryd.func79, Tryd.ntmps79
 go_wp2_with (first
  | (go_at_call 84; (with_reducible refine (strings_Split.calls s ⟨#[32]⟩ t _ HG.out HS.out).mono ?_); rintro e w3 ⟨v3, rfl, hr, hb⟩; obtain ⟨A4, c4, e4⟩ := Kd.R_slice hr; subst e4; obtain ⟨_, hc4, hC4⟩ := Kd.R_reads' hr; have C4 := Aside0.mk hC4; have K4 := Aside0.mk hc4; have B3 := Aside0.mk hb; clear hr hb hc4 hC4; obtain ⟨ad, ead, hx⟩ := Kd.at_string C4.out 0 (by decide) (by have := HL.out; omega); cases ead; obtain ⟨t0, ht0⟩ : ∃ t0, t0 = rdOf ByteArray.empty t 0 := ⟨_, rfl⟩; rw [← ht0] at hx; replace hx : w3.cell? ad = some (.string t0) := hx; have T0 := Aside0.mk (show t0.toList = [108, 105, 110, 107] by rw [ht0]; exact HT0.out); have v_dev : (t0.toList == [100, 101, 118, 105, 99, 101]) = false := (by rw [T0.out]; rfl); have v_lnk : (t0.toList == [108, 105, 110, 107]) = true := (by rw [T0.out]; rfl); have v_acl : (t0.toList == [97, 99, 108]) = false := (by rw [T0.out]; rfl); clear ht0; have lp : decide (0 < t.length) = true := decide_eq_true (by have := HL.out; omega); have lp1 : (0 < t.length) = True := eq_true (by have := HL.out; omega); have lp2 : decide ((0 : Int) < (t.length : Int)) = true := decide_eq_true (by have := HL.out; omega); obtain ⟨i024, hi024, _, hsz24, _⟩ := info_parts info9; obtain ⟨A5, hcut5, hA5, hC5⟩ := print_drop_of (P := Tryd.prog) Value.string (⟨#[]⟩ : ByteArray) 30 9 .i64 Tryd.underlying30 hi024 hsz24 (some ad) c4 t 1 (by decide) (by have := HL.out; omega) K4.out; simp only [show (1 : Int).toNat = 1 from rfl] at hcut5 hC5 hA5; have C5' := Kd.C_of_reads (h1 := fun _ => rfl) (hA5 _ (Kd.reads_of_C C4.out)); have HN5' := HN.out; clear hA5; generalize t.drop 1 = t5 at hcut5 hC5 C5' HN5'; generalize c4 - 1 = c5 at hcut5 hC5; have C5 : Aside0 (Kd.C Kd.string _ A5 t5.length t5) := ⟨C5'⟩; have HN5 := Aside0.mk HN5'; have K5 := Aside0.mk hC5; clear hC5 C5' HN5' hi024 hsz24)
  | (go_at_call 108; (with_reducible refine (script_numbers.calls kN A5 c5 t5 ns 0 _ C5.out K5.out HN5.out).mono ?_); rintro e w4 ⟨v4, rfl, hr, hb⟩; obtain ⟨An, cn, en⟩ := Kd.R_slice hr; subst en; have RN := Aside0.mk hr; have B4 := Aside0.mk (below_step B3.out hb); clear hr hb))
 go_ret
 exact ⟨rfl, B4.out⟩
set_option maxHeartbeats 4000000 in
set_option maxRecDepth 100000 in
theorem add_acl_err (kN : Nat) (x : S130) (er : Int) (s : ByteArray) (t : List ByteArray) (g : Nat) (w0 w : World) (hB : Below w0.heap.size w0 w) (hG : Hand.Good true false w) (hs : strings_Split.f s ⟨#[32]⟩ = some t) (hl : 0 < t.length) (h0 : (rdOf ByteArray.empty t 0).toList = [97, 99, 108]) (hn : script_ace.f kN (t.drop 1) = some (x.f0, x.f1, x.f2, x.f3, x.f4.f0.f0, x.f4.f0.f1, x.f4.f1.f0, x.f4.f1.f1, x.f4.f2, x.f4.f3.f0, x.f4.f3.f1, x.f4.f4.f0, x.f4.f4.f1, er)) (he : er ≠ 0) :
  Calls Tryd.prog 79 #[.pointer (some ⟨g, 0, none⟩), .string s] w fun e w' => e = .returned (.int .i64 er) ∧ Below w.heap.size w w' := by
 have HG := Aside0.mk hG
 have HB := Aside0.mk hB
 have HS := Aside0.mk hs
 have HL := Aside0.mk hl
 have HT0 := Aside0.mk h0
 have HN := Aside0.mk hn
 have he1 : (er != 0) = true := bne_iff_ne.2 he
 have he2 : (er == 0) = false := beq_eq_false_iff_ne.2 he
 clear hG hB hs hl h0 hn he
 go_enter Tryd.func79, Tryd.ntmps79
 go_wp2_with (first
  | (go_at_call 84; (with_reducible refine (strings_Split.calls s ⟨#[32]⟩ t _ HG.out HS.out).mono ?_); rintro e w3 ⟨v3, rfl, hr, hb⟩; obtain ⟨A4, c4, e4⟩ := Kd.R_slice hr; subst e4; obtain ⟨_, hc4, hC4⟩ := Kd.R_reads' hr; have C4 := Aside0.mk hC4; have K4 := Aside0.mk hc4; have B3 := Aside0.mk hb; clear hr hb hc4 hC4; obtain ⟨ad, ead, hx⟩ := Kd.at_string C4.out 0 (by decide) (by have := HL.out; omega); cases ead; obtain ⟨t0, ht0⟩ : ∃ t0, t0 = rdOf ByteArray.empty t 0 := ⟨_, rfl⟩; rw [← ht0] at hx; replace hx : w3.cell? ad = some (.string t0) := hx; have T0 := Aside0.mk (show t0.toList = [97, 99, 108] by rw [ht0]; exact HT0.out); have v_dev : (t0.toList == [100, 101, 118, 105, 99, 101]) = false := (by rw [T0.out]; rfl); have v_lnk : (t0.toList == [108, 105, 110, 107]) = false := (by rw [T0.out]; rfl); have v_acl : (t0.toList == [97, 99, 108]) = true := (by rw [T0.out]; rfl); clear ht0; have lp : decide (0 < t.length) = true := decide_eq_true (by have := HL.out; omega); have lp1 : (0 < t.length) = True := eq_true (by have := HL.out; omega); have lp2 : decide ((0 : Int) < (t.length : Int)) = true := decide_eq_true (by have := HL.out; omega); obtain ⟨i024, hi024, _, hsz24, _⟩ := info_parts info9; obtain ⟨A5, hcut5, hA5, hC5⟩ := print_drop_of (P := Tryd.prog) Value.string (⟨#[]⟩ : ByteArray) 30 9 .i64 Tryd.underlying30 hi024 hsz24 (some ad) c4 t 1 (by decide) (by have := HL.out; omega) K4.out; simp only [show (1 : Int).toNat = 1 from rfl] at hcut5 hC5 hA5; have C5' := Kd.C_of_reads (h1 := fun _ => rfl) (hA5 _ (Kd.reads_of_C C4.out)); have HN5' := HN.out; clear hA5; generalize t.drop 1 = t5 at hcut5 hC5 C5' HN5'; generalize c4 - 1 = c5 at hcut5 hC5; have C5 : Aside0 (Kd.C Kd.string _ A5 t5.length t5) := ⟨C5'⟩; have HN5 := Aside0.mk HN5'; have K5 := Aside0.mk hC5; clear hC5 C5' HN5' hi024 hsz24)
  | (go_at_call 109; (with_reducible refine (script_ace.calls kN A5 c5 t5 x.f0 x.f1 x.f2 x.f3 x.f4.f0.f0 x.f4.f0.f1 x.f4.f1.f0 x.f4.f1.f1 x.f4.f2 x.f4.f3.f0 x.f4.f3.f1 x.f4.f4.f0 x.f4.f4.f1 er _ (Hand.Good.below true false HG.out B3.out rfl rfl) C5.out K5.out HN5.out).mono ?_); rintro e w4 ⟨rfl, hb⟩; have B4 := Aside0.mk (below_step B3.out hb); clear hb))
 go_ret
 exact ⟨rfl, below_alloc B4.out _⟩
set_option maxHeartbeats 4000000 in
set_option maxRecDepth 100000 in
theorem add_none (s : ByteArray) (t : List ByteArray) (g : Nat) (w0 w : World) (hB : Below w0.heap.size w0 w) (hG : Hand.Good true false w) (hs : strings_Split.f s ⟨#[32]⟩ = some t) (hl : 0 < t.length) (h1 : (rdOf ByteArray.empty t 0).toList ≠ [100, 101, 118, 105, 99, 101]) (h2 : (rdOf ByteArray.empty t 0).toList ≠ [108, 105, 110, 107]) (h3 : (rdOf ByteArray.empty t 0).toList ≠ [97, 99, 108]) :
  Calls Tryd.prog 79 #[.pointer (some ⟨g, 0, none⟩), .string s] w fun e w' => e = .returned (.int .i64 6) ∧ Below w.heap.size w w' := by
 have HG := Aside0.mk hG
 have HB := Aside0.mk hB
 have HS := Aside0.mk hs
 have HL := Aside0.mk hl
 have H1 := Aside0.mk h1
 have H2 := Aside0.mk h2
 have H3 := Aside0.mk h3
 clear hG hB hs hl h1 h2 h3
 go_enter Tryd.func79, Tryd.ntmps79
 go_wp2_with (first
  | (go_at_call 84; (with_reducible refine (strings_Split.calls s ⟨#[32]⟩ t _ HG.out HS.out).mono ?_); rintro e w3 ⟨v3, rfl, hr, hb⟩; obtain ⟨A4, c4, e4⟩ := Kd.R_slice hr; subst e4; obtain ⟨_, hc4, hC4⟩ := Kd.R_reads' hr; have C4 := Aside0.mk hC4; have K4 := Aside0.mk hc4; have B3 := Aside0.mk hb; clear hr hb hc4 hC4; obtain ⟨ad, ead, hx⟩ := Kd.at_string C4.out 0 (by decide) (by have := HL.out; omega); cases ead; obtain ⟨t0, ht0⟩ : ∃ t0, t0 = rdOf ByteArray.empty t 0 := ⟨_, rfl⟩; rw [← ht0] at hx; replace hx : w3.cell? ad = some (.string t0) := hx; have v_dev : (t0.toList == [100, 101, 118, 105, 99, 101]) = false := beq_eq_false_iff_ne.2 (by rw [ht0]; exact H1.out); have v_lnk : (t0.toList == [108, 105, 110, 107]) = false := beq_eq_false_iff_ne.2 (by rw [ht0]; exact H2.out); have v_acl : (t0.toList == [97, 99, 108]) = false := beq_eq_false_iff_ne.2 (by rw [ht0]; exact H3.out); clear ht0; have lp : decide (0 < t.length) = true := decide_eq_true (by have := HL.out; omega); have lp1 : (0 < t.length) = True := eq_true (by have := HL.out; omega); have lp2 : decide ((0 : Int) < (t.length : Int)) = true := decide_eq_true (by have := HL.out; omega)))
 go_ret
 exact ⟨rfl, B3.out⟩


open Go.Proofs.YtloclimoffhbhaaDoor.Scr Go.Proofs.YtloclimoffhbhaaDoor.Facts Go.Proofs.YtloclimoffhbhaaDoor.Bits
/-- What a topology's three lists are. -/
abbrev Lists := List Int × List S133 × List S130
def Lists.few (T : Lists) (n : Nat) : Prop := T.1.length ≤ n ∧ T.2.1.length ≤ n ∧ T.2.2.length ≤ n
/-- A line that adds something. -/
def Adds (s : ByteArray) (T T' : Lists) : Prop := ∃ t kN, strings_Split.f s ⟨#[32]⟩ = some t ∧ 0 < t.length ∧
 (((rdOf ByteArray.empty t 0).toList = [100, 101, 118, 105, 99, 101] ∧ ∃ n, script_numbers.f kN (t.drop 1) = some ([n], 0) ∧ T' = (T.1 ++ [n], T.2.1, T.2.2)) ∨
 ((rdOf ByteArray.empty t 0).toList = [108, 105, 110, 107] ∧ ∃ na nb nc nd, script_numbers.f kN (t.drop 1) = some ([na, nb, nc, nd], 0) ∧ T' = (T.1, T.2.1 ++ [⟨na, nb, nc, nd⟩], T.2.2)) ∨
 ((rdOf ByteArray.empty t 0).toList = [97, 99, 108] ∧ ∃ x : S130, script_ace.f kN (t.drop 1) = some (x.f0, x.f1, x.f2, x.f3, x.f4.f0.f0, x.f4.f0.f1, x.f4.f1.f0, x.f4.f1.f1, x.f4.f2, x.f4.f3.f0, x.f4.f3.f1, x.f4.f4.f0, x.f4.f4.f1, 0) ∧ T' = (T.1, T.2.1, T.2.2 ++ [x])))
/-- A line that is none. -/
def Fails (s : ByteArray) (er : Int) : Prop := er ≠ 0 ∧ ∃ t kN, strings_Split.f s ⟨#[32]⟩ = some t ∧ 0 < t.length ∧
 (((rdOf ByteArray.empty t 0).toList = [100, 101, 118, 105, 99, 101] ∧ ∃ ns e, script_numbers.f kN (t.drop 1) = some (ns, e) ∧ ((e ≠ 0 ∧ er = e) ∨ (e = 0 ∧ ns.length ≠ 1 ∧ er = 6))) ∨
 ((rdOf ByteArray.empty t 0).toList = [108, 105, 110, 107] ∧ ∃ ns e, script_numbers.f kN (t.drop 1) = some (ns, e) ∧ ((e ≠ 0 ∧ er = e) ∨ (e = 0 ∧ ns.length ≠ 4 ∧ er = 6))) ∨
 ((rdOf ByteArray.empty t 0).toList = [97, 99, 108] ∧ ∃ x : S130, script_ace.f kN (t.drop 1) = some (x.f0, x.f1, x.f2, x.f3, x.f4.f0.f0, x.f4.f0.f1, x.f4.f1.f0, x.f4.f1.f1, x.f4.f2, x.f4.f3.f0, x.f4.f3.f1, x.f4.f4.f0, x.f4.f4.f1, er)) ∨
 ((rdOf ByteArray.empty t 0).toList ≠ [100, 101, 118, 105, 99, 101] ∧ (rdOf ByteArray.empty t 0).toList ≠ [108, 105, 110, 107] ∧ (rdOf ByteArray.empty t 0).toList ≠ [97, 99, 108] ∧ er = 6))
theorem add_adds {s : ByteArray} {T T' : Lists} (h : Adds s T T') (hf : T.few 1000) (g : Nat) (w0 w : World) (hT : Top w0 w g T.1 T.2.1 T.2.2) (hB : Below w0.heap.size w0 w) (hG : Hand.Good true false w) :
  Calls Tryd.prog 79 #[.pointer (some ⟨g, 0, none⟩), .string s] w fun e w' => e = .returned (.int .i64 0) ∧ Top w0 w' g T'.1 T'.2.1 T'.2.2 ∧ Below w0.heap.size w0 w' ∧ Keep26 w w' g := by
 obtain ⟨t, kN, hs, hl, ⟨h0, n, hn, rfl⟩ | ⟨h0, na, nb, nc, nd, hn, rfl⟩ | ⟨h0, x, hn, rfl⟩⟩ := h
 ·exact add_dev kN n _ _ _ s t g w0 w hT hB hG hs hl h0 hn hf.1
 ·exact add_lnk kN na nb nc nd _ _ _ s t g w0 w hT hB hG hs hl h0 hn hf.2.1
 ·exact add_acl kN x _ _ _ s t g w0 w hT hB hG hs hl h0 hn hf.2.2
theorem add_fails {s : ByteArray} {er : Int} (h : Fails s er) (g : Nat) (w : World) (hG : Hand.Good true false w) :
  Calls Tryd.prog 79 #[.pointer (some ⟨g, 0, none⟩), .string s] w fun e w' => e = .returned (.int .i64 er) ∧ Below w.heap.size w w' := by
 obtain ⟨he, t, kN, hs, hl, ⟨h0, ns, e, hn, ⟨h1, rfl⟩ | ⟨rfl, h2, rfl⟩⟩ | ⟨h0, ns, e, hn, ⟨h1, rfl⟩ | ⟨rfl, h2, rfl⟩⟩ | ⟨h0, x, hn⟩ | ⟨h1, h2, h3, rfl⟩⟩ := h
 ·exact add_dev_err kN ns er s t g w w (Below.refl _ _) hG hs hl h0 hn h1
 ·exact add_dev_few kN ns s t g w w (Below.refl _ _) hG hs hl h0 hn h2
 ·exact add_lnk_err kN ns er s t g w w (Below.refl _ _) hG hs hl h0 hn h1
 ·exact add_lnk_few kN ns s t g w w (Below.refl _ _) hG hs hl h0 hn h2
 ·exact add_acl_err kN x er s t g w w (Below.refl _ _) hG hs hl h0 hn he
 ·exact add_none s t g w w (Below.refl _ _) hG hs hl h1 h2 h3
theorem size26 : (Tryd.prog.info? 26).map (·.size) = some 3 := by kernel_rfl
theorem Top.empty {w0 w : World} {g : Nat} (hb : w.heap[g]? = some (.cells #[.slice none 0 0, .slice none 0 0, .slice none 0 0] 26 (0, 0))) (hg : w0.heap.size ≤ g) : Top w0 w g [] [] [] :=
 ⟨_, _, _, hb, hg, Kd.R_nil _ _ _ _ _, Kd.R_nil _ _ _ _ _, Kd.R_nil _ _ _ _ _⟩
theorem Top.drop {w0 w w1 : World} {g k : Nat} {P : List Int} {L : List S133} {A : List S130} {cs : Array Value} (h : Top w0 w g P L A) (hne : g ≠ k) (hp : Hand.Put w w1 k 26 cs) (hk : ∃ cs0, w.heap[k]? = some (.cells cs0 26 (0, 0))) : Top w0 w1 g P L A := by
 obtain ⟨vP, vL, vA, h1, h2, h3, h4, h5⟩ := h
 obtain ⟨cs0, hk⟩ := hk
 have st : ∀ {α : Type} {d : Kd α} {e : Nat} {v : Value} {xs : List α}, d.R e w w0.heap.size (fun _ => True) v xs → (∀ q, q ∈ e :: d.E → q ≠ 26) → d.R e w1 w0.heap.size (fun _ => True) v xs := fun hR ht =>
  Kd.R_mono (Kd.R_step (Kd.R_types hR hk ht) (fun j hj _ => hp.far j hj.2)) (fun _ _ => trivial)
 exact ⟨vP, vL, vA, hp.keep h1 hne, h2, st h3 (by decide), st h4 (by decide), st h5 (by decide)⟩
set_option maxHeartbeats 4000000 in
set_option maxRecDepth 100000 in
theorem topo_ok (A0 : Option Addr) (c0 : Nat) (ls : List ByteArray) (T : Nat → Lists) (w : World) (hC : Kd.C Kd.string w A0 ls.length ls) (hl : ls.length ≤ 1000) (hG : Hand.Good true false w) (hT0 : T 0 = ([], [], [])) (hf : ∀ i, i ≤ ls.length → (T i).few 1000) (hA : ∀ i : Nat, i < ls.length → Adds (rdOf ByteArray.empty ls (i : Int)) (T i) (T (i + 1))) :
  Calls Tryd.prog 24 #[.slice A0 ls.length c0] w fun e w' => ∃ vP vL vA, e = .returned (.tuple #[.agg #[vP, vL, vA], .int .i64 (-1), .int .i64 0]) ∧ Kd.R (Kd.int .i64) 3 w' w.heap.size (fun _ => True) vP (T ls.length).1 ∧ Kd.R k133 133 w' w.heap.size (fun _ => True) vL (T ls.length).2.1 ∧ Kd.R k130 130 w' w.heap.size (fun _ => True) vA (T ls.length).2.2 ∧ Below w.heap.size w w' := by
 have HC := Aside0.mk hC
 have HL := Aside0.mk hl
 have HG := Aside0.mk hG
 have HT0 := Aside0.mk hT0
 have HFW := Aside0.mk hf
 have HA := Aside0.mk hA
 clear hC hl hG hT0 hf hA
 go_enter Tryd.func24, Tryd.ntmps24
 go_wp2_with (first
  | ((with_reducible refine gate_dst (N := 2) rfl ?_); refine box_event ?hg (N := 2) ?hd (cs := #[.slice none 0 0, .slice none 0 0, .slice none 0 0]) (t := 26) ?hr ?_; (case hd => rfl); (case hg => rfl); (case hr => first | (go_simp; done) | (go_simp; rfl)); intro g2 hg w2 hbox hb; have X2 := Aside0.mk hbox; have B2 := Aside0.mk (hb); have G2 := Aside0.mk (show w.heap.size ≤ g2 by rw [hg]; exact Nat.le_refl _); clear hg hbox hb)
  | ((with_reducible refine gate_dst (N := 5) rfl ?_); refine box_event ?hg (N := 5) ?hd (cs := #[.slice none 0 0, .slice none 0 0, .slice none 0 0]) (t := 26) ?hr ?_; (case hd => rfl); (case hg => rfl); (case hr => first | (go_simp; done) | (go_simp; rfl)); intro g5 hg w5 hbox hb; have X5 := Aside0.mk hbox; have B5 := Aside0.mk (below_step B2.out hb); have G5 := Aside0.mk (show w.heap.size ≤ g5 by rw [hg]; exact below_size B2.out); have X25 := Aside0.mk (blk_below X2.out hb); have N25 := Aside0.mk (show g2 ≠ g5 by rw [hg]; exact Nat.ne_of_lt (blk_lt X2.out)); clear hg hbox hb))
 go_loopg [11] ls.length (fun kq v11 wl => ∃ (i : Nat) (ii : Int), i + kq = ls.length ∧ v11 = .int .i64 ii ∧ Aside0 (ii = (i : Int)) ∧ Aside0 (i ≤ ls.length) ∧ Aside0 (Top w wl g5 (T i).1 (T i).2.1 (T i).2.2) ∧ Aside0 (Below w.heap.size w wl) ∧ Aside0 (wl.heap[g2]? = some (.cells #[.slice none 0 0, .slice none 0 0, .slice none 0 0] 26 (0, 0))))
 case atStart => exact ⟨0, 0, by omega, rfl, ⟨rfl⟩, ⟨Nat.zero_le _⟩, ⟨by rw [HT0.out]; exact Top.empty X5.out G5.out⟩, B5, X25⟩
 case round =>
  clear X2 B2 X5 B5 X25
  obtain ⟨i, ii, hi, rfl, HII, HIM, TT, BL, XL⟩ := hrel
  have HI := Aside0.mk hi
  clear hi
  by_cases hlt : i < ls.length
  ·have HLT := Aside0.mk hlt
   clear hlt
   have p : 0 ≤ ii := by have := HII.out; omega
   have q : ii < (ls.length : Int) := by have := HII.out; have := HLT.out; omega
   have hcn : decide (ii < (ls.length : Int)) = true := decide_eq_true q
   obtain ⟨ad, e1, hx⟩ := Kd.at_string (Kd.C_below HC.out BL.out) ii p q
   cases e1
   obtain ⟨sl, hsl⟩ : ∃ sl, sl = rdOf ByteArray.empty ls ii := ⟨_, rfl⟩
   rw [← hsl] at hx
   have SL := Aside0.mk (show sl = rdOf ByteArray.empty ls (i : Int) by rw [hsl, HII.out])
   clear hsl
   replace p := eq_true p
   have AI := Aside0.mk (show Adds sl (T i) (T (i + 1)) by rw [SL.out]; exact HA.out i HLT.out)
   have FI := Aside0.mk (HFW.out i (Nat.le_of_lt HLT.out))
   go_wp2_with (first
    | (go_at_call 79; (with_reducible refine (add_adds AI.out FI.out g5 w _ TT.out BL.out (Hand.Good.below true false HG.out BL.out rfl rfl)).mono ?_); rintro e w5 ⟨rfl, hT, hb, hk⟩; have T5 := Aside0.mk hT; have B5 := Aside0.mk hb; have X5 := Aside0.mk (hk g2 _ N25.out XL.out); clear hT hb hk))
   go_roundg (ls.length - (i + 1))
   case measure => have := HI.out; have := HLT.out; omega
   case rel => exact ⟨i + 1, ii + 1, by have := HLT.out; omega, by rw [wrap64_id _ (by have := HII.out; omega) (by have := HII.out; have := HLT.out; have := HL.out; omega)], ⟨by have := HII.out; omega⟩, ⟨by have := HLT.out; omega⟩, T5, B5, X5⟩
  ·have hcn : decide (ii < (ls.length : Int)) = false := decide_eq_false (by have := HII.out; omega)
   obtain rfl : i = ls.length := by have := HIM.out; omega
   clear hlt
   obtain ⟨vP, vL, vA, hb0, hg0, hr0, hr1, hr2⟩ := TT.out
   have K5 := Aside0.mk hb0
   have R0 := Aside0.mk hr0
   have R1 := Aside0.mk hr1
   have R2 := Aside0.mk hr2
   obtain ⟨A1, c1, e1⟩ := Kd.R_slice hr0
   obtain ⟨A2, c2, e2⟩ := Kd.R_slice hr1
   obtain ⟨A3, c3, e3⟩ := Kd.R_slice hr2
   have one0 : vP.oneCell' = true := by rw [e1]; rfl
   have one1 : vL.oneCell' = true := by rw [e2]; rfl
   have one2 : vA.oneCell' = true := by rw [e3]; rfl
   have z0 : wr.cell? ⟨g5, 0, none⟩ = some vP := (blk_cell K5.out 0).trans rfl
   have z1 : wr.cell? ⟨g5, 1, none⟩ = some vL := (blk_cell K5.out 1).trans rfl
   have z2 : wr.cell? ⟨g5, 2, none⟩ = some vA := (blk_cell K5.out 2).trans rfl
   clear hb0 hg0 hr0 hr1 hr2 e1 e2 e3
   go_wp2_with (first
    | ((with_reducible refine gate_ (.store 26 (.tmp 2) (.tmp 24)) rfl ?_); refine Hand.wpList_store_blk (g := g2) (off := 0) rfl rfl 26 (.tmp 2) (.tmp 24) rfl [vP, vL, vA] #[vP, vL, vA] rfl rfl XL.out rfl size26 (show 0 + 3 ≤ 3 by decide) (fun u hu => by simp at hu; rcases hu with rfl | rfl | rfl <;> assumption) rfl (fun w8 hp => ?_); have P8 := Aside0.mk hp.box; have B8 := Aside0.mk (hp.bl _ BL.out G2.out); have Q8 := Aside0.mk (show Top w w8 g5 (T ls.length).1 (T ls.length).2.1 (T ls.length).2.2 from Top.drop TT.out (Ne.symm N25.out) hp ⟨_, XL.out⟩); have K8 := Aside0.mk (hp.keep K5.out (Ne.symm N25.out)); clear hp))
   refine bodyPost_ret (results_ctt rfl _ _ g2 26 #[vP, vL, vA] (0, 0) _ rfl P8.out Tryd.underlying26 rfl (by kernel_rfl)) rfl ?_
   obtain ⟨uP, uL, uA, hb0, hg0, hr0, hr1, hr2⟩ := Q8.out
   have := hb0.symm.trans K8.out
   simp only [Option.some.injEq, Obj.cells.injEq, Array.mk.injEq, List.cons.injEq, and_true] at this
   obtain ⟨rfl, rfl, rfl⟩ := this
   exact ⟨_, _, _, rfl, hr0, hr1, hr2, B8.out⟩
set_option maxHeartbeats 4000000 in
set_option maxRecDepth 100000 in
theorem topo_bad (j : Nat) (er : Int) (A0 : Option Addr) (c0 : Nat) (ls : List ByteArray) (T : Nat → Lists) (w : World) (hC : Kd.C Kd.string w A0 ls.length ls) (hl : ls.length ≤ 1000) (hG : Hand.Good true false w) (hT0 : T 0 = ([], [], [])) (hf : ∀ i, i ≤ ls.length → (T i).few 1000) (hj : j < ls.length) (hA : ∀ i : Nat, i < j → Adds (rdOf ByteArray.empty ls (i : Int)) (T i) (T (i + 1))) (hF : Fails (rdOf ByteArray.empty ls (j : Int)) er) :
  Calls Tryd.prog 24 #[.slice A0 ls.length c0] w fun e w' => e = .returned (.tuple #[.agg #[.slice none 0 0, .slice none 0 0, .slice none 0 0], .int .i64 (j : Int), .int .i64 er]) ∧ Below w.heap.size w w' := by
 have HC := Aside0.mk hC
 have HL := Aside0.mk hl
 have HG := Aside0.mk hG
 have HT0 := Aside0.mk hT0
 have HFW := Aside0.mk hf
 have HA := Aside0.mk hA
 have HJ := Aside0.mk hj
 have HF := Aside0.mk hF
 clear hj hF
 clear hC hl hG hT0 hf hA
 go_enter Tryd.func24, Tryd.ntmps24
 go_wp2_with (first
  | ((with_reducible refine gate_dst (N := 2) rfl ?_); refine box_event ?hg (N := 2) ?hd (cs := #[.slice none 0 0, .slice none 0 0, .slice none 0 0]) (t := 26) ?hr ?_; (case hd => rfl); (case hg => rfl); (case hr => first | (go_simp; done) | (go_simp; rfl)); intro g2 hg w2 hbox hb; have X2 := Aside0.mk hbox; have B2 := Aside0.mk (hb); have G2 := Aside0.mk (show w.heap.size ≤ g2 by rw [hg]; exact Nat.le_refl _); clear hg hbox hb)
  | ((with_reducible refine gate_dst (N := 5) rfl ?_); refine box_event ?hg (N := 5) ?hd (cs := #[.slice none 0 0, .slice none 0 0, .slice none 0 0]) (t := 26) ?hr ?_; (case hd => rfl); (case hg => rfl); (case hr => first | (go_simp; done) | (go_simp; rfl)); intro g5 hg w5 hbox hb; have X5 := Aside0.mk hbox; have B5 := Aside0.mk (below_step B2.out hb); have G5 := Aside0.mk (show w.heap.size ≤ g5 by rw [hg]; exact below_size B2.out); have X25 := Aside0.mk (blk_below X2.out hb); have N25 := Aside0.mk (show g2 ≠ g5 by rw [hg]; exact Nat.ne_of_lt (blk_lt X2.out)); clear hg hbox hb))
 go_loopg [11] ls.length (fun kq v11 wl => ∃ (i : Nat) (ii : Int), i + kq = ls.length ∧ v11 = .int .i64 ii ∧ Aside0 (ii = (i : Int)) ∧ Aside0 (i ≤ j) ∧ Aside0 (Top w wl g5 (T i).1 (T i).2.1 (T i).2.2) ∧ Aside0 (Below w.heap.size w wl) ∧ Aside0 (wl.heap[g2]? = some (.cells #[.slice none 0 0, .slice none 0 0, .slice none 0 0] 26 (0, 0))))
 case atStart => exact ⟨0, 0, by omega, rfl, ⟨rfl⟩, ⟨Nat.zero_le _⟩, ⟨by rw [HT0.out]; exact Top.empty X5.out G5.out⟩, B5, X25⟩
 case round =>
  clear X2 B2 X5 B5 X25
  obtain ⟨i, ii, hi, rfl, HII, HIM, TT, BL, XL⟩ := hrel
  have HI := Aside0.mk hi
  clear hi
  have HLT := Aside0.mk (show i < ls.length by have := HIM.out; have := HJ.out; omega)
  rcases Nat.lt_or_ge i j with hlt | hge
  ·have HLJ := Aside0.mk hlt
   clear hlt
   have p : 0 ≤ ii := by have := HII.out; omega
   have q : ii < (ls.length : Int) := by have := HII.out; have := HLT.out; omega
   have hcn : decide (ii < (ls.length : Int)) = true := decide_eq_true q
   obtain ⟨ad, e1, hx⟩ := Kd.at_string (Kd.C_below HC.out BL.out) ii p q
   cases e1
   obtain ⟨sl, hsl⟩ : ∃ sl, sl = rdOf ByteArray.empty ls ii := ⟨_, rfl⟩
   rw [← hsl] at hx
   have SL := Aside0.mk (show sl = rdOf ByteArray.empty ls (i : Int) by rw [hsl, HII.out])
   clear hsl
   replace p := eq_true p
   have AI := Aside0.mk (show Adds sl (T i) (T (i + 1)) by rw [SL.out]; exact HA.out i HLJ.out)
   have FI := Aside0.mk (HFW.out i (Nat.le_of_lt HLT.out))
   go_wp2_with (first
    | (go_at_call 79; (with_reducible refine (add_adds AI.out FI.out g5 w _ TT.out BL.out (Hand.Good.below true false HG.out BL.out rfl rfl)).mono ?_); rintro e w5 ⟨rfl, hT, hb, hk⟩; have T5 := Aside0.mk hT; have B5 := Aside0.mk hb; have X5 := Aside0.mk (hk g2 _ N25.out XL.out); clear hT hb hk))
   go_roundg (ls.length - (i + 1))
   case measure => have := HI.out; have := HLT.out; omega
   case rel => exact ⟨i + 1, ii + 1, by have := HLT.out; omega, by rw [wrap64_id _ (by have := HII.out; omega) (by have := HII.out; have := HLT.out; have := HL.out; omega)], ⟨by have := HII.out; omega⟩, ⟨by have := HLT.out; have := HLJ.out; omega⟩, T5, B5, X5⟩
  ·obtain rfl : i = j := by have := HIM.out; omega
   clear hge
   have p : 0 ≤ ii := by have := HII.out; omega
   have q : ii < (ls.length : Int) := by have := HII.out; have := HLT.out; omega
   have hcn : decide (ii < (ls.length : Int)) = true := decide_eq_true q
   obtain ⟨ad, e1, hx⟩ := Kd.at_string (Kd.C_below HC.out BL.out) ii p q
   cases e1
   obtain ⟨sl, hsl⟩ : ∃ sl, sl = rdOf ByteArray.empty ls ii := ⟨_, rfl⟩
   rw [← hsl] at hx
   have SL := Aside0.mk (show sl = rdOf ByteArray.empty ls (i : Int) by rw [hsl, HII.out])
   clear hsl
   replace p := eq_true p
   have FI := Aside0.mk (show Fails sl er by rw [SL.out]; exact HF.out)
   have he1 : (er != 0) = true := bne_iff_ne.2 FI.out.1
   have he2 : (er == 0) = false := beq_eq_false_iff_ne.2 FI.out.1
   go_wp2_with (first
    | (go_at_call 79; (with_reducible refine (add_fails FI.out g5 _ (Hand.Good.below true false HG.out BL.out rfl rfl)).mono ?_); rintro e w5 ⟨rfl, hb⟩; have B5 := Aside0.mk (below_step BL.out hb); have X5 := Aside0.mk (blk_below XL.out hb); clear hb)
    | ((with_reducible refine gate_ (.store 26 (.tmp 2) (.tmp 20)) rfl ?_); refine Hand.wpList_store_blk (g := g2) (off := 0) rfl rfl 26 (.tmp 2) (.tmp 20) rfl [.slice none 0 0, .slice none 0 0, .slice none 0 0] #[.slice none 0 0, .slice none 0 0, .slice none 0 0] rfl rfl X5.out rfl size26 (show 0 + 3 ≤ 3 by decide) (fun u hu => by simp at hu; rcases hu with rfl | rfl | rfl <;> rfl) rfl (fun w8 hp => ?_); have P8 := Aside0.mk hp.box; have B8 := Aside0.mk (hp.bl _ B5.out G2.out); clear hp))
   have hii := HII.out
   subst hii
   refine bodyPost_ret (results_ctt rfl _ _ g2 26 #[.slice none 0 0, .slice none 0 0, .slice none 0 0] (0, 0) _ rfl P8.out Tryd.underlying26 rfl (by kernel_rfl)) rfl ?_
   exact ⟨rfl, B8.out⟩

end Go.Proofs.YtloclimoffhbhaaDoor.PSto
