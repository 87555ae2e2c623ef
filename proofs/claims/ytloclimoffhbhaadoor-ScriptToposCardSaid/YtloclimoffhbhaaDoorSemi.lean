/- Texts with "; " between, cut into their parts; a batch's changes read. No condition of its own. -/
import Derived.Test.YtloclimoffhbhaaDoorChg
import Derived.Test.YtloclimoffhbhaaDoorPStox3
namespace Go.Proofs.YtloclimoffhbhaaDoor.Scr
open Go Go.RowKit Go.Proofs.YtloclimoffhbhaaDoor.PSto Go.Proofs.YtloclimoffhbhaaDoorW.PrintWords Go.Proofs.YtloclimoffhbhaaDoorW.PrintLast Go.Proofs.YtloclimoffhbhaaDoorW.PrintMore Go.Proofs.YtloclimoffhbhaaDoor.Bits Go.Proofs.YtloclimoffhbhaaDoor.Facts
set_option linter.unusedVariables false
set_option linter.unusedSimpArgs false
theorem index_semi (r : List UInt8) : ∀ w : List UInt8, (59 : UInt8) ∉ w → Lib.index (w ++ 59 :: 32 :: r) [59, 32] = w.length
  | [], _ => by
    rw [List.nil_append, Lib.index, if_pos (by simp [List.isPrefixOf])]
    rfl
  | b :: l, h => by
    have hb : ¬ b = 59 := fun e => h (e ▸ List.mem_cons_self)
    have ih := index_semi r l (fun m => h (List.mem_cons_of_mem _ m))
    rw [List.cons_append, Lib.index, if_neg (by simp [List.isPrefixOf, Ne.symm hb]), ih, if_neg (by rw [beq_iff_eq]; omega)]
    simp
theorem index_semi_none : ∀ w : List UInt8, (59 : UInt8) ∉ w → Lib.index w [59, 32] = -1
  | [], _ => rfl
  | b :: l, h => by
    have hb : ¬ b = 59 := fun e => h (e ▸ List.mem_cons_self)
    have ih := index_semi_none l (fun m => h (List.mem_cons_of_mem _ m))
    rw [Lib.index, if_neg (by simp [List.isPrefixOf, Ne.symm hb]), ih]
    rfl
def joinS : List (List UInt8) → List UInt8
  | [] => []
  | [w] => w
  | w :: v :: r => w ++ 59 :: 32 :: joinS (v :: r)
theorem splitK_semi (ws : List (List UInt8)) : ∀ w : List UInt8, (∀ x ∈ w :: ws, (59 : UInt8) ∉ x) → Lib.splitK [59, 32] 0 (Lib.count (joinS (w :: ws)) [59, 32]) (joinS (w :: ws)) = w :: ws := by
  induction ws with
  | nil =>
    intro w h
    have hi := index_semi_none w (h w List.mem_cons_self)
    show Lib.splitK [59, 32] 0 (Lib.count w [59, 32]) w = [w]
    rw [Lib.count_miss hi]
    rfl
  | cons v r ih =>
    intro w h
    have hi := index_semi (joinS (v :: r)) w (h w List.mem_cons_self)
    have hd : (w ++ 59 :: 32 :: joinS (v :: r)).drop (w.length + ([59, 32] : List UInt8).length) = joinS (v :: r) := by
      rw [show w ++ 59 :: 32 :: joinS (v :: r) = (w ++ [59, 32]) ++ joinS (v :: r) by simp, List.drop_left' (by simp)]
    show Lib.splitK [59, 32] 0 (Lib.count (w ++ 59 :: 32 :: joinS (v :: r)) [59, 32]) (w ++ 59 :: 32 :: joinS (v :: r)) = w :: v :: r
    rw [Lib.count_hit (by decide) hi, hd, Nat.add_comm, Lib.splitK, hi, if_neg (by rw [beq_iff_eq]; omega), Int.toNat_natCast, hd, ih v (fun x hx => h x (List.mem_cons_of_mem _ hx)), Nat.add_zero, List.take_left]
theorem split_semi (w : List UInt8) (ws : List (List UInt8)) (h : ∀ x ∈ w :: ws, (59 : UInt8) ∉ x) (hs : (joinS (w :: ws)).length ≤ 1000000) : strings_Split.f (B (joinS (w :: ws))) ⟨#[59, 32]⟩ = some ((w :: ws).map B) := by
  unfold strings_Split.f
  rw [if_pos ⟨by rw [B_size]; omega, by simp [ByteArray.size]⟩]
  congr 1
  apply map_inj
  rw [Lib.splitB_data, show (⟨#[59, 32]⟩ : ByteArray).data.toList = [59, 32] from rfl, B_data]
  unfold Lib.countB
  rw [show (⟨#[59, 32]⟩ : ByteArray).data.toList = [59, 32] from rfl, B_data, splitK_semi ws w h, List.map_map]
  exact (List.map_id _).symm
theorem D_no59 (n : Nat) : (59 : UInt8) ∉ D n := fun h => by
  have := D_mem n n (Nat.le_refl _) 59 h
  simp at this
theorem outW_no59 (o : Int) : (59 : UInt8) ∉ outW o := by
  unfold outW
  split
  · decide
  · exact D_no59 _
theorem preT_no59 (x y : Nat) : (59 : UInt8) ∉ preT x y := by
  unfold preT addrT addrB
  have d : ∀ n, (59 : UInt8) ∉ D n := D_no59
  intro h
  simp [d] at h
theorem chT_no59 (c : S46) : (59 : UInt8) ∉ chT c := by
  unfold chT
  have d := D_no59
  have o := outW_no59
  have p := preT_no59
  split
  · intro h
    simp [d] at h
  · intro h
    simp [d, o, p] at h
theorem chT_len {c : S46} (hb : bdC c) (h : rightC c = true) : (chT c).length ≤ 80 := by
  obtain ⟨h0, h⟩ := rightC_iff.1 h
  have l1 : (D c.f1.f0.toNat).length ≤ 8 := D_len7 (by have := h0.2; omega)
  unfold chT
  by_cases cd : c.f0 = true
  · rw [if_pos cd]
    simp only [List.length_append, List.length_cons, List.length_nil]
    omega
  · rw [if_neg cd]
    obtain ⟨h1, h2, h3, h4⟩ := h.resolve_left cd
    have l2 : (D c.f1.f1.toNat).length ≤ 8 := D_len7 (by have := h1.2; omega)
    have l3 : (D c.f1.f3.toNat).length ≤ 8 := D_len7 (by have := h2.2; omega)
    have l4 : (preT c.f1.f2.f0.toNat c.f1.f2.f1.toNat).length ≤ 29 := preT_len _ (by have := right_bd h4; omega)
    have l5 := outW_len h3.2
    simp only [List.length_append, List.length_cons, List.length_nil]
    omega
theorem joinS_len (l : List (List UInt8)) (h : ∀ x ∈ l, x.length ≤ 80) : (joinS l).length ≤ 82 * l.length := by
  induction l with
  | nil => simp [joinS]
  | cons w r ih =>
    have hw := h w List.mem_cons_self
    cases r with
    | nil => simp only [joinS, List.length_cons, List.length_nil]; omega
    | cons v r =>
      have := ih (fun x hx => h x (List.mem_cons_of_mem _ hx))
      simp only [joinS, List.length_append, List.length_cons] at this ⊢
      omega
/-- A batch's changes, read. -/
theorem changes_ev (c : S46) (l : List S46) (hl : l.length ≤ 100) (hb : ∀ x ∈ c :: l, bdC x) (hr : ∀ x ∈ c :: l, rightC x = true) : Ev (fun k => script_changes.f k (B (joinS ((c :: l).map chT)))) ((c :: l).map backC, 0) := by
  have hlen := joinS_len ((c :: l).map chT) (by
    intro x hx
    obtain ⟨y, hy, rfl⟩ := List.mem_map.1 hx
    exact chT_len (hb y hy) (hr y hy))
  rw [List.length_map, List.length_cons] at hlen
  have hsp := split_semi (chT c) (l.map chT) (by
    intro x hx
    obtain ⟨y, hy, rfl⟩ := List.mem_map.1 (show x ∈ (c :: l).map chT from hx)
    exact chT_no59 y) (by
    rw [← List.map_cons]
    omega)
  rw [← List.map_cons] at hsp
  unfold script_changes.f
  rw [hsp]
  simp only [Option.bind_some]
  generalize hL : c :: l = L at hb hr
  have hLl : L.length ≤ 101 := by rw [← hL, List.length_cons]; omega
  have h : ∀ d i : Nat, i + d = L.length → Ev (fun k => script_changes.l0 k ((L.take i).map backC) ((L.map chT).map B) (((L.map chT).map B).length : Int) (i : Int)) (L.map backC, 0) := by
    intro d
    induction d with
    | zero =>
      intro i hi
      obtain rfl : i = L.length := by omega
      rw [List.take_length]
      exact Ev.step (f := fun _ => some (L.map backC, 0)) (fun k => by rw [script_changes.l0, if_neg (by simp only [List.length_map]; omega)]) (Ev.now _)
    | succ d ih =>
      intro i hi
      have hlt : i < L.length := by omega
      have e : rdOf ByteArray.empty ((L.map chT).map B) (i : Int) = B (chT L[i]) := by
        simp [rdOf, List.getD, hlt]
      have hm := List.getElem_mem hlt
      have h3 := ih (i + 1) (by omega)
      rw [List.take_succ_eq_append_getElem hlt, List.map_append] at h3
      refine Ev.step (fun k => by rw [script_changes.l0, if_pos (by simp only [List.length_map]; omega), if_pos (by omega), if_pos (by simp only [List.length_map]; omega), e]) (Ev.bind (read_ev (hb _ hm) (hr _ hm)) ?_)
      simp only [if_true]
      have hl2 : ((L.take i).map backC).length ≤ i := by rw [List.length_map]; exact List.length_take_le _ _
      simp only [if_pos (show ((L.take i).map backC).length < 2513169434916 by omega)]
      rw [wrS i (by omega)]
      exact h3
  have := h L.length 0 (by omega)
  rw [List.take_zero] at this
  exact this
/-! The document's example. -/
theorem awake25_ev : Ev (fun k => crossbucklaw25_awake.f k) true := by
  have e : (⟨#[98, 97, 116, 99, 104, 32, 97, 100, 100, 32, 49, 32, 48, 32, 49, 48, 46, 48, 46, 48, 46, 48, 47, 56, 32, 53, 32, 100, 114, 111, 112, 59, 32, 100, 101, 108, 32, 51]⟩ : ByteArray) = B ([98, 97, 116, 99, 104] ++ 32 :: joinS ([aw1, aw2].map chT)) := by decide +kernel
  unfold crossbucklaw25_awake.f
  have hlen : ([98, 97, 116, 99, 104] ++ 32 :: joinS ([aw1, aw2].map chT)).length < 1000000 := by
    have := congrArg ByteArray.size e
    rw [B_size] at this
    rw [← this]
    decide
  rw [e, cut_mid 32 [98, 97, 116, 99, 104] _ (by decide) hlen]
  simp only [Option.bind_some, toList_B, beq_self_eq_true, Bool.and_self, if_true]
  have b1 : bdC aw1 := ⟨by decide, by decide⟩
  have b2 : bdC aw2 := ⟨by decide, by decide⟩
  have r1 : rightC aw1 = true := by decide
  have r2 : rightC aw2 = true := by decide
  refine Ev.bind (changes_ev aw1 [aw2] (by decide) (by intro x hx; simp at hx; rcases hx with rfl | rfl <;> assumption) (by intro x hx; simp at hx; rcases hx with rfl | rfl <;> assumption)) ?_
  have hok : awOk ([aw1, aw2].map backC, 0) = true := by decide
  simp only [hok, if_true]
  exact Ev.now _
end Go.Proofs.YtloclimoffhbhaaDoor.Scr
