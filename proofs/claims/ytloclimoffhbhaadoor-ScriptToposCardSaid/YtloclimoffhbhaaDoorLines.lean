/- Topologies as lines: written by the program and by the document; two that are the same. No condition of its own. -/
import Derived.Test.YtloclimoffhbhaaDoorTops
import Derived.Test.YtloclimoffhbhaaDoorPStox10
import Derived.Test.YtloclimoffhbhaaDoorPStox14
import Derived.Test.YtloclimoffhbhaaDoorPStox16
namespace Go.Proofs.YtloclimoffhbhaaDoor.Scr
open Go Go.RowKit Go.Proofs.YtloclimoffhbhaaDoor.PSto Go.Proofs.YtloclimoffhbhaaDoorW.PrintWords Go.Proofs.YtloclimoffhbhaaDoorW.PrintLast Go.Proofs.YtloclimoffhbhaaDoorW.PrintMore Go.Proofs.YtloclimoffhbhaaDoor.Bits Go.Proofs.YtloclimoffhbhaaDoor.Facts
set_option linter.unusedVariables false
set_option linter.unusedSimpArgs false
def devT (n : Int) : List UInt8 := [100, 101, 118, 105, 99, 101] ++ 32 :: D n.toNat
def lnkT (x : S133) : List UInt8 := [108, 105, 110, 107] ++ 32 :: (D x.f0.toNat ++ 32 :: (D x.f1.toNat ++ 32 :: (D x.f2.toNat ++ 32 :: D x.f3.toNat)))
def wayT (b : Bool) : List UInt8 := if b = true then [105, 110] else [111, 117, 116]
def whatT (b : Bool) : List UInt8 := if b = true then [112, 101, 114, 109, 105, 116] else [100, 101, 110, 121]
def fltA (x : S130) : List UInt8 := fT x.f4.f0.f0 x.f4.f0.f1 x.f4.f1.f0 x.f4.f1.f1 x.f4.f2 x.f4.f3.f0 x.f4.f3.f1 x.f4.f4.f0 x.f4.f4.f1
def aclT (x : S130) : List UInt8 := [97, 99, 108] ++ 32 :: (D x.f0.toNat ++ 32 :: (D x.f1.toNat ++ 32 :: (wayT x.f2 ++ 32 :: (whatT x.f3 ++ 32 :: fltA x))))
def linesT (P : List Int) (L : List S133) (A : List S130) : List (List UInt8) := P.map devT ++ L.map lnkT ++ A.map aclT
/-- A topology that may be written. -/
structure CanT (P : List Int) (L : List S133) (A : List S130) : Prop where
  few : P.length ≤ 100 ∧ L.length ≤ 100 ∧ A.length ≤ 100
  port : ∀ n ∈ P, small n
  link : ∀ x ∈ L, small x.f0 ∧ small x.f1 ∧ small x.f2 ∧ small x.f3
  ace : ∀ x ∈ A, small x.f0 ∧ small x.f1 ∧ bdA x ∧ rightA x = true
theorem D8 {n : Int} (h : small n) : (D n.toNat).length ≤ 8 := D_len7 (by have := h.2; omega)
theorem fltA_len {x : S130} (hb : bdA x) (h : rightA x = true) : (fltA x).length ≤ 100 := (fT_laws hb h).2.2.2
theorem wayT_len (b : Bool) : (wayT b).length ≤ 3 := by cases b <;> decide
theorem whatT_len (b : Bool) : (whatT b).length ≤ 6 := by cases b <;> decide
theorem join_two_more (x y : List UInt8) (r : List (List UInt8)) : Lib.join (x :: y :: r) [32] = x ++ 32 :: Lib.join (y :: r) [32] := by
  rw [Lib.join_cons, Lib.join_cons]
  simp [Lib.joinTail]
theorem joinB {ps : List (List UInt8)} (h : (Lib.join ps [32]).length ≤ 1000) (hl : ps.length ≤ 1000) : strings_Join.f (ps.map B) ⟨#[32]⟩ = some (B (Lib.join ps [32])) := by
  unfold strings_Join.f
  have e1 : (ps.map B).map (fun z : ByteArray => z.data.toList) = ps := by
    rw [List.map_map]
    exact (List.map_congr_left (fun x _ => rfl)).trans (List.map_id _)
  rw [e1, show (⟨#[32]⟩ : ByteArray).data.toList = [32] from rfl, if_pos ⟨by omega, by rw [List.length_map]; omega⟩]
  rfl
theorem lnk_join {x : S133} (h : small x.f0 ∧ small x.f1 ∧ small x.f2 ∧ small x.f3) : strings_Join.f [⟨#[108, 105, 110, 107]⟩, B (D x.f0.toNat), B (D x.f1.toNat), B (D x.f2.toNat), B (D x.f3.toNat)] ⟨#[32]⟩ = some (B (lnkT x)) := by
  have e : Lib.join [[108, 105, 110, 107], D x.f0.toNat, D x.f1.toNat, D x.f2.toNat, D x.f3.toNat] [32] = lnkT x := by
    rw [join_two_more, join_two_more, join_two_more, join_two_more, Lib.join_one]; rfl
  have l0 := D8 h.1
  have l1 := D8 h.2.1
  have l2 := D8 h.2.2.1
  have l3 := D8 h.2.2.2
  have := joinB (ps := [[108, 105, 110, 107], D x.f0.toNat, D x.f1.toNat, D x.f2.toNat, D x.f3.toNat]) (by rw [e]; simp only [lnkT, List.length_append, List.length_cons, List.length_nil]; omega) (by simp)
  rw [e] at this
  exact this
theorem acl_join {x : S130} (h0 : small x.f0) (h1 : small x.f1) (hb : bdA x) (hr : rightA x = true) : strings_Join.f [⟨#[97, 99, 108]⟩, B (D x.f0.toNat), B (D x.f1.toNat), B (wayT x.f2), B (whatT x.f3), B (fltA x)] ⟨#[32]⟩ = some (B (aclT x)) := by
  have e : Lib.join [[97, 99, 108], D x.f0.toNat, D x.f1.toNat, wayT x.f2, whatT x.f3, fltA x] [32] = aclT x := by
    rw [join_two_more, join_two_more, join_two_more, join_two_more, join_two_more, Lib.join_one]; rfl
  have l0 := D8 h0
  have l1 := D8 h1
  have l2 := wayT_len x.f2
  have l3 := whatT_len x.f3
  have l4 := fltA_len hb hr
  have := joinB (ps := [[97, 99, 108], D x.f0.toNat, D x.f1.toNat, wayT x.f2, whatT x.f3, fltA x]) (by rw [e]; simp only [aclT, List.length_append, List.length_cons, List.length_nil]; omega) (by simp)
  rw [e] at this
  exact this
theorem printTopo_ev {P : List Int} {L : List S133} {A : List S130} (h : CanT P L A) : Ev (fun k => script_PrintTopo.f k P L A) ((linesT P L A).map B) := by
  obtain ⟨⟨f1, f2, f3⟩, hp, hk, ha⟩ := h
  have h2 : ∀ d i : Nat, i + d = A.length → Ev (fun k => script_PrintTopo.l2 k ((P.map devT ++ L.map lnkT ++ (A.take i).map aclT).map B) A (A.length : Int) (i : Int)) ((linesT P L A).map B) := by
    intro d
    induction d with
    | zero =>
      intro i hi
      obtain rfl : i = A.length := by omega
      rw [List.take_length]
      exact Ev.step (f := fun _ => some ((linesT P L A).map B)) (fun k => by rw [script_PrintTopo.l2, if_neg (by omega)]; rfl) (Ev.now _)
    | succ d ih =>
      intro i hi
      have hlt : i < A.length := by omega
      have h3 := ih (i + 1) (by omega)
      obtain ⟨s0, s1, hb, hr⟩ := ha _ (List.getElem_mem hlt)
      have e := rd130 hlt
      generalize A[i] = x at s0 s1 hb hr e
      have hlen : ((P.map devT ++ L.map lnkT ++ (A.take i).map aclT).map B).length < 8796093022208 := by
        simp only [List.length_map, List.length_append, List.length_take]
        omega
      have es : (P.map devT ++ L.map lnkT ++ (A.take (i + 1)).map aclT).map B = (P.map devT ++ L.map lnkT ++ (A.take i).map aclT).map B ++ [B (aclT A[i])] := by
        rw [List.take_succ_eq_append_getElem hlt]
        simp only [List.map_append, List.map_cons, List.map_nil, List.append_assoc]
      rw [es] at h3
      have e2 : A[i] = x := by rw [← rd130 hlt]; exact e
      rw [e2] at h3
      obtain ⟨hpr, _, _, _⟩ := fT_laws hb hr
      have h4 : Ev (fun k => script_PrintTopo.j4 k ((P.map devT ++ L.map lnkT ++ (A.take i).map aclT).map B) (B (wayT x.f2)) (B (whatT x.f3)) A (A.length : Int) (i : Int) x.f0 x.f1 x.f2 x.f3 x.f4.f0.f0 x.f4.f0.f1 x.f4.f1.f0 x.f4.f1.f1 x.f4.f2 x.f4.f3.f0 x.f4.f3.f1 x.f4.f4.f0 x.f4.f4.f1) ((linesT P L A).map B) := by
        refine Ev.step (fun k => by rw [script_PrintTopo.j4, itoaS s0, itoaS s1, Option.bind_some, Option.bind_some]) (Ev.bind hpr ?_)
        have hj := acl_join s0 s1 hb hr
        unfold fltA at hj
        simp only [hj, Option.bind_some, if_pos hlen, wrS i (by omega)]
        exact h3
      have h5 : Ev (fun k => script_PrintTopo.j3 k ((P.map devT ++ L.map lnkT ++ (A.take i).map aclT).map B) (B (wayT x.f2)) (⟨#[100, 101, 110, 121]⟩ : ByteArray) A (A.length : Int) (i : Int) x.f0 x.f1 x.f2 x.f3 x.f4.f0.f0 x.f4.f0.f1 x.f4.f1.f0 x.f4.f1.f1 x.f4.f2 x.f4.f3.f0 x.f4.f3.f1 x.f4.f4.f0 x.f4.f4.f1) ((linesT P L A).map B) := by
        refine Ev.step (fun k => ?_) h4
        rw [script_PrintTopo.j3]
        cases hx : x.f3 with
        | true => rw [if_pos rfl]; rfl
        | false => rw [if_neg (by decide)]; rfl
      refine Ev.step (fun k => ?_) h5
      rw [script_PrintTopo.l2, if_pos (by omega), if_pos (by omega), if_pos (by omega), e]
      cases hx : x.f2 with
      | true => rw [if_pos rfl]; rfl
      | false => rw [if_neg (by decide)]; rfl
  have h1 : ∀ d i : Nat, i + d = L.length → Ev (fun k => script_PrintTopo.l1 k ((P.map devT ++ (L.take i).map lnkT).map B) L (L.length : Int) (i : Int) P L A) ((linesT P L A).map B) := by
    intro d
    induction d with
    | zero =>
      intro i hi
      obtain rfl : i = L.length := by omega
      rw [List.take_length]
      have := h2 A.length 0 (by omega)
      rw [List.take_zero, List.map_nil, List.append_nil] at this
      exact Ev.step (fun k => by rw [script_PrintTopo.l1, if_neg (by omega)]; rfl) this
    | succ d ih =>
      intro i hi
      have hlt : i < L.length := by omega
      have h3 := ih (i + 1) (by omega)
      have hs := hk _ (List.getElem_mem hlt)
      have e := rd133 hlt
      have es : (P.map devT ++ (L.take (i + 1)).map lnkT).map B = (P.map devT ++ (L.take i).map lnkT).map B ++ [B (lnkT L[i])] := by
        rw [List.take_succ_eq_append_getElem hlt]
        simp only [List.map_append, List.map_cons, List.map_nil, List.append_assoc]
      rw [es] at h3
      refine Ev.step (fun k => ?_) h3
      have hlen : ((P.map devT ++ (L.take i).map lnkT).map B).length < 8796093022208 := by
        simp only [List.length_map, List.length_append, List.length_take]
        omega
      rw [script_PrintTopo.l1, if_pos (by omega), if_pos (by omega), if_pos (by omega), e, itoaS hs.1, itoaS hs.2.1, itoaS hs.2.2.1, itoaS hs.2.2.2]
      simp only [Option.bind_some, lnk_join hs, if_pos hlen, wrS i (by omega)]
  have h0 : ∀ d i : Nat, i + d = P.length → Ev (fun k => script_PrintTopo.l0 k (((P.take i).map devT).map B) P (P.length : Int) (i : Int) P L A) ((linesT P L A).map B) := by
    intro d
    induction d with
    | zero =>
      intro i hi
      obtain rfl : i = P.length := by omega
      rw [List.take_length]
      have := h1 L.length 0 (by omega)
      rw [List.take_zero, List.map_nil, List.append_nil] at this
      exact Ev.step (fun k => by rw [script_PrintTopo.l0, if_neg (by omega)]; rfl) this
    | succ d ih =>
      intro i hi
      have hlt : i < P.length := by omega
      have h3 := ih (i + 1) (by omega)
      have hs := hp _ (List.getElem_mem hlt)
      have e := rdI hlt
      have l1 := D8 hs
      rw [List.take_succ_eq_append_getElem hlt, List.map_append, List.map_append] at h3
      refine Ev.step (fun k => ?_) h3
      have hlen : (((P.take i).map devT).map B).length < 8796093022208 := by
        simp only [List.length_map, List.length_take]
        omega
      rw [script_PrintTopo.l0, if_pos (by omega), if_pos (by omega), if_pos (by omega), e, itoaS hs, Option.bind_some, if_pos (by rw [B_size]; omega), if_pos hlen, wrS i (by omega), show (⟨#[100, 101, 118, 105, 99, 101, 32]⟩ : ByteArray) = B [100, 101, 118, 105, 99, 101, 32] from rfl, B_add]
      rfl
  have := h0 P.length 0 (by omega)
  rw [List.take_zero] at this
  exact this
theorem sp1 : (⟨#[32]⟩ : ByteArray) = B [32] := rfl
theorem refTopo_ev {P : List Int} {L : List S133} {A : List S130} (h : CanT P L A) : Ev (fun k => crossbuckref25_Topo.f k P L A) ((linesT P L A).map B) := by
  obtain ⟨⟨f1, f2, f3⟩, hp, hk, ha⟩ := h
  have h2 : ∀ d i : Nat, i + d = A.length → Ev (fun k => crossbuckref25_Topo.l2 k ((P.map devT ++ L.map lnkT ++ (A.take i).map aclT).map B) (i : Int) P L A) ((linesT P L A).map B) := by
    intro d
    induction d with
    | zero =>
      intro i hi
      obtain rfl : i = A.length := by omega
      rw [List.take_length]
      exact Ev.step (f := fun _ => some ((linesT P L A).map B)) (fun k => by rw [crossbuckref25_Topo.l2, if_neg (by omega)]; rfl) (Ev.now _)
    | succ d ih =>
      intro i hi
      have hlt : i < A.length := by omega
      have h3 := ih (i + 1) (by omega)
      obtain ⟨s0, s1, hb, hr⟩ := ha _ (List.getElem_mem hlt)
      have e := rd130 hlt
      have es : (P.map devT ++ L.map lnkT ++ (A.take (i + 1)).map aclT).map B = (P.map devT ++ L.map lnkT ++ (A.take i).map aclT).map B ++ [B (aclT A[i])] := by
        rw [List.take_succ_eq_append_getElem hlt]
        simp only [List.map_append, List.map_cons, List.map_nil, List.append_assoc]
      rw [es] at h3
      have hlen : ((P.map devT ++ L.map lnkT ++ (A.take i).map aclT).map B).length < 8796093022208 := by
        simp only [List.length_map, List.length_append, List.length_take]
        omega
      generalize (P.map devT ++ L.map lnkT ++ (A.take i).map aclT).map B = acc at h3 hlen ⊢
      generalize hx : A[i] = x at s0 s1 hb hr e h3
      obtain ⟨_, ⟨K1, hpr⟩, _, hfl⟩ := fT_laws hb hr
      obtain ⟨K2, hd0⟩ := digS s0
      obtain ⟨K3, hd1⟩ := digS s1
      obtain ⟨K4, h3⟩ := h3
      have l0 := D8 s0
      have l1 := D8 s1
      have l2 := wayT_len x.f2
      have hj : Ev (fun k => crossbuckref25_Topo.j3 k acc (i : Int) (B (32 :: wayT x.f2)) P L A x.f0 x.f1 x.f2 x.f3 x.f4.f0.f0 x.f4.f0.f1 x.f4.f1.f0 x.f4.f1.f1 x.f4.f2 x.f4.f3.f0 x.f4.f3.f1 x.f4.f4.f0 x.f4.f4.f1) ((linesT P L A).map B) := by
        refine ⟨K1 + K2 + K3 + K4 + 1, fun k hk => ?_⟩
        obtain ⟨m, rfl⟩ : ∃ m, k = m + 1 := ⟨k - 1, by omega⟩
        dsimp only
        have g0 : crossbuckref25_n.f m x.f0 = some (B (D x.f0.toNat)) := hd0 m (by omega)
        have g1 : crossbuckref25_n.f m x.f1 = some (B (D x.f1.toNat)) := hd1 m (by omega)
        have g2 : crossbuckref04_Print.f m x.f4.f0.f0 x.f4.f0.f1 x.f4.f1.f0 x.f4.f1.f1 x.f4.f2 x.f4.f3.f0 x.f4.f3.f1 x.f4.f4.f0 x.f4.f4.f1 = some (B (fT x.f4.f0.f0 x.f4.f0.f1 x.f4.f1.f0 x.f4.f1.f1 x.f4.f2 x.f4.f3.f0 x.f4.f3.f1 x.f4.f4.f0 x.f4.f4.f1)) := hpr m (by omega)
        have g3 : crossbuckref25_Topo.l2 m (acc ++ [B (aclT x)]) ((i + 1 : Nat) : Int) P L A = some ((linesT P L A).map B) := h3 m (by omega)
        rw [crossbuckref25_Topo.j3]
        cases hw : x.f3 with
        | true =>
          have e1 : (([97, 99, 108, 32] ++ D x.f0.toNat ++ [32] ++ D x.f1.toNat ++ (32 :: wayT x.f2 ++ [32, 112, 101, 114, 109, 105, 116, 32])) ++ fT x.f4.f0.f0 x.f4.f0.f1 x.f4.f1.f0 x.f4.f1.f1 x.f4.f2 x.f4.f3.f0 x.f4.f3.f1 x.f4.f4.f0 x.f4.f4.f1) = aclT x := by simp [aclT, whatT, hw, fltA]
          rw [if_pos rfl]
          simp only [g0, g1, g2, Option.bind_some, sp1, show (⟨#[97, 99, 108, 32]⟩ : ByteArray) = B [97, 99, 108, 32] from rfl, show (⟨#[32, 112, 101, 114, 109, 105, 116, 32]⟩ : ByteArray) = B [32, 112, 101, 114, 109, 105, 116, 32] from rfl, B_add, e1]
          simp only [B_size, List.length_append, List.length_cons, List.length_nil]
          rw [if_pos (by omega), if_pos (by omega), if_pos (by omega), if_pos (by omega), if_pos (by omega), if_pos (by omega), if_pos hlen, wrS i (by omega)]
          exact g3
        | false =>
          have e1 : (([97, 99, 108, 32] ++ D x.f0.toNat ++ [32] ++ D x.f1.toNat ++ (32 :: wayT x.f2 ++ [32, 100, 101, 110, 121, 32])) ++ fT x.f4.f0.f0 x.f4.f0.f1 x.f4.f1.f0 x.f4.f1.f1 x.f4.f2 x.f4.f3.f0 x.f4.f3.f1 x.f4.f4.f0 x.f4.f4.f1) = aclT x := by simp [aclT, whatT, hw, fltA]
          rw [if_neg (by decide)]
          simp only [g0, g1, g2, Option.bind_some, sp1, show (⟨#[97, 99, 108, 32]⟩ : ByteArray) = B [97, 99, 108, 32] from rfl, show (⟨#[32, 100, 101, 110, 121, 32]⟩ : ByteArray) = B [32, 100, 101, 110, 121, 32] from rfl, B_add, e1]
          simp only [B_size, List.length_append, List.length_cons, List.length_nil]
          rw [if_pos (by omega), if_pos (by omega), if_pos (by omega), if_pos (by omega), if_pos (by omega), if_pos (by omega), if_pos hlen, wrS i (by omega)]
          exact g3
      refine Ev.step (fun k => ?_) hj
      rw [crossbuckref25_Topo.l2, if_pos (by omega), if_pos (by omega), e]
      cases hy : x.f2 with
      | true => rw [if_pos rfl]; rfl
      | false => rw [if_neg (by decide)]; rfl
  have h1 : ∀ d i : Nat, i + d = L.length → Ev (fun k => crossbuckref25_Topo.l1 k ((P.map devT ++ (L.take i).map lnkT).map B) (i : Int) P L A) ((linesT P L A).map B) := by
    intro d
    induction d with
    | zero =>
      intro i hi
      obtain rfl : i = L.length := by omega
      rw [List.take_length]
      have := h2 A.length 0 (by omega)
      rw [List.take_zero, List.map_nil, List.append_nil] at this
      exact Ev.step (fun k => by rw [crossbuckref25_Topo.l1, if_neg (by omega)]; rfl) this
    | succ d ih =>
      intro i hi
      have hlt : i < L.length := by omega
      have h3 := ih (i + 1) (by omega)
      have hs := hk _ (List.getElem_mem hlt)
      have e := rd133 hlt
      have es : (P.map devT ++ (L.take (i + 1)).map lnkT).map B = (P.map devT ++ (L.take i).map lnkT).map B ++ [B (lnkT L[i])] := by
        rw [List.take_succ_eq_append_getElem hlt]
        simp only [List.map_append, List.map_cons, List.map_nil, List.append_assoc]
      rw [es] at h3
      have hlen : ((P.map devT ++ (L.take i).map lnkT).map B).length < 8796093022208 := by
        simp only [List.length_map, List.length_append, List.length_take]
        omega
      generalize (P.map devT ++ (L.take i).map lnkT).map B = acc at h3 hlen ⊢
      generalize hx : L[i] = x at hs e h3
      obtain ⟨K1, hd0⟩ := digS hs.1
      obtain ⟨K2, hd1⟩ := digS hs.2.1
      obtain ⟨K3, hd2⟩ := digS hs.2.2.1
      obtain ⟨K4, hd3⟩ := digS hs.2.2.2
      obtain ⟨K5, h3⟩ := h3
      have l0 := D8 hs.1
      have l1 := D8 hs.2.1
      have l2 := D8 hs.2.2.1
      have l3 := D8 hs.2.2.2
      refine ⟨K1 + K2 + K3 + K4 + K5 + 1, fun k hk => ?_⟩
      obtain ⟨m, rfl⟩ : ∃ m, k = m + 1 := ⟨k - 1, by omega⟩
      dsimp only
      have g0 : crossbuckref25_n.f m x.f0 = some (B (D x.f0.toNat)) := hd0 m (by omega)
      have g1 : crossbuckref25_n.f m x.f1 = some (B (D x.f1.toNat)) := hd1 m (by omega)
      have g2 : crossbuckref25_n.f m x.f2 = some (B (D x.f2.toNat)) := hd2 m (by omega)
      have g3 : crossbuckref25_n.f m x.f3 = some (B (D x.f3.toNat)) := hd3 m (by omega)
      have g4 : crossbuckref25_Topo.l1 m (acc ++ [B (lnkT x)]) ((i + 1 : Nat) : Int) P L A = some ((linesT P L A).map B) := h3 m (by omega)
      have e1 : [108, 105, 110, 107, 32] ++ D x.f0.toNat ++ [32] ++ D x.f1.toNat ++ [32] ++ D x.f2.toNat ++ [32] ++ D x.f3.toNat = lnkT x := by simp [lnkT]
      rw [crossbuckref25_Topo.l1, if_pos (by omega), if_pos (by omega), e]
      simp only [g0, g1, g2, g3, Option.bind_some, sp1, show (⟨#[108, 105, 110, 107, 32]⟩ : ByteArray) = B [108, 105, 110, 107, 32] from rfl, B_add, e1]
      simp only [B_size, List.length_append, List.length_cons, List.length_nil]
      rw [if_pos (by omega), if_pos (by omega), if_pos (by omega), if_pos (by omega), if_pos (by omega), if_pos (by omega), if_pos (by omega), if_pos hlen, wrS i (by omega)]
      exact g4
  have h0 : ∀ d i : Nat, i + d = P.length → Ev (fun k => crossbuckref25_Topo.l0 k (((P.take i).map devT).map B) (i : Int) P L A) ((linesT P L A).map B) := by
    intro d
    induction d with
    | zero =>
      intro i hi
      obtain rfl : i = P.length := by omega
      rw [List.take_length]
      have := h1 L.length 0 (by omega)
      rw [List.take_zero, List.map_nil, List.append_nil] at this
      exact Ev.step (fun k => by rw [crossbuckref25_Topo.l0, if_neg (by omega)]; rfl) this
    | succ d ih =>
      intro i hi
      have hlt : i < P.length := by omega
      have h3 := ih (i + 1) (by omega)
      have hs := hp _ (List.getElem_mem hlt)
      have e := rdI hlt
      have l1 := D8 hs
      have es : ((P.take (i + 1)).map devT).map B = ((P.take i).map devT).map B ++ [B (devT P[i])] := by
        rw [List.take_succ_eq_append_getElem hlt]
        simp only [List.map_append, List.map_cons, List.map_nil]
      rw [es] at h3
      have hlen : (((P.take i).map devT).map B).length < 8796093022208 := by
        simp only [List.length_map, List.length_take]
        omega
      refine Ev.step (fun k => by rw [crossbuckref25_Topo.l0, if_pos (by omega), if_pos (by omega), e]) (Ev.bind (digS hs) ?_)
      simp only [show (⟨#[100, 101, 118, 105, 99, 101, 32]⟩ : ByteArray) = B [100, 101, 118, 105, 99, 101, 32] from rfl, B_add, if_pos (show 7 + (B (D P[i].toNat)).size ≤ 9223372036854775807 by rw [B_size]; omega), if_pos hlen, wrS i (by omega)]
      exact h3
  have := h0 P.length 0 (by omega)
  rw [List.take_zero] at this
  exact this
theorem sameTopo_ev (P : List Int) (L : List S133) (A : List S130) (f1 : P.length ≤ 1000) (f2 : L.length ≤ 1000) (f3 : A.length ≤ 1000) : Ev (fun k => crossbucklaw25_sameTopo.f k P L A P L A) true := by
  have h2 : ∀ d i : Nat, i + d = A.length → Ev (fun k => crossbucklaw25_sameTopo.l2 k (A.length : Int) (i : Int) P L A P L A) true := by
    intro d
    induction d with
    | zero =>
      intro i hi
      exact Ev.step (f := fun _ => some true) (fun k => by rw [crossbucklaw25_sameTopo.l2, if_neg (by omega)]) (Ev.now _)
    | succ d ih =>
      intro i hi
      exact Ev.step (fun k => by rw [crossbucklaw25_sameTopo.l2, if_pos (by omega), if_pos (by omega), if_pos (by omega), if_pos (by omega), if_neg (by simp), wrS i (by omega)]) (ih (i + 1) (by omega))
  have h1 : ∀ d i : Nat, i + d = L.length → Ev (fun k => crossbucklaw25_sameTopo.l1 k (L.length : Int) (i : Int) P L A P L A) true := by
    intro d
    induction d with
    | zero =>
      intro i hi
      exact Ev.step (fun k => by rw [crossbucklaw25_sameTopo.l1, if_neg (by omega)]; rfl) (h2 A.length 0 (by omega))
    | succ d ih =>
      intro i hi
      exact Ev.step (fun k => by rw [crossbucklaw25_sameTopo.l1, if_pos (by omega), if_pos (by omega), if_pos (by omega), if_pos (by omega), if_neg (by simp), wrS i (by omega)]) (ih (i + 1) (by omega))
  have h0 : ∀ d i : Nat, i + d = P.length → Ev (fun k => crossbucklaw25_sameTopo.l0 k (P.length : Int) (i : Int) P L A P L A) true := by
    intro d
    induction d with
    | zero =>
      intro i hi
      exact Ev.step (fun k => by rw [crossbucklaw25_sameTopo.l0, if_neg (by omega)]; rfl) (h1 L.length 0 (by omega))
    | succ d ih =>
      intro i hi
      exact Ev.step (fun k => by rw [crossbucklaw25_sameTopo.l0, if_pos (by omega), if_pos (by omega), if_pos (by omega), if_pos (by omega), if_pos rfl, wrS i (by omega)]) (ih (i + 1) (by omega))
  unfold crossbucklaw25_sameTopo.f
  simp only [if_true, bne_self_eq_false]
  exact Ev.step (fun k => by rw [crossbucklaw25_sameTopo.j0, if_neg (by decide)]; rfl) (h0 P.length 0 (by omega))
end Go.Proofs.YtloclimoffhbhaaDoor.Scr
