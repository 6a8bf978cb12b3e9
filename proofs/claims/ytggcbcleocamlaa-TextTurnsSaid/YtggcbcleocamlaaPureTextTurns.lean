/- Difference agrees with the reference, and turns the first text into the second one, for any two texts; conditions: none (longer texts than 300 bytes are let through by the statement itself). -/
import Derived.Test.YtggcbcleocamlaaTxA
import Derived.Test.YtggcbcleocamlaaTxAw
import Derived.Test.YtggcbcleocamlaaPx8
namespace Go.Proofs.Ytggcbcleocamlaa.Pure
open Go.RowKit Go.Proofs.Ytggcbcleocamlaa.P Go.Proofs.YtggcbcleocamlaaW.PrintWords Go.Proofs.YtggcbcleocamlaaW.PrintLast
theorem diff_same : ∀ k, (∀ x0 x1 x5, assessorref01_Difference.j1 k x0 x1 x5 = text_Difference.j1 k x0 x1 x5) ∧ (∀ x0 x1 x5 x6, assessorref01_Difference.l1 k x0 x1 x5 x6 = text_Difference.l1 k x0 x1 x5 x6) ∧ (∀ x0 x1 x5, assessorref01_Difference.l0 k x0 x1 x5 = text_Difference.l0 k x0 x1 x5)
  | 0 => ⟨fun _ _ _ => rfl, fun _ _ _ _ => rfl, fun _ _ _ => rfl⟩
  | k + 1 => by
    obtain ⟨h1, h2, h3⟩ := diff_same k
    refine ⟨fun _ _ _ => ?_, fun _ _ _ _ => ?_, fun _ _ _ => ?_⟩
    · rw [assessorref01_Difference.j1.eq_2, text_Difference.j1.eq_2, h2]
    · rw [assessorref01_Difference.l1.eq_2, text_Difference.l1.eq_2, h2]
    · rw [assessorref01_Difference.l0.eq_2, text_Difference.l0.eq_2, h3, h1]
def Suf (a b : ByteArray) (p e : Int) : Prop := 0 ≤ e ∧ e ≤ a.size - p ∧ e ≤ b.size - p ∧ ∀ i : Int, 0 ≤ i → i < e → bt a (a.size - 1 - i) = bt b (b.size - 1 - i)
def Pre (a b : ByteArray) (p : Int) : Prop := 0 ≤ p ∧ p ≤ a.size ∧ p ≤ b.size ∧ ∀ i : Int, 0 ≤ i → i < p → bt a i = bt b i
theorem suf_from (a b : ByteArray) (ha : a.size ≤ 300) (hb : b.size ≤ 300) (p : Int) (hp : Pre a b p) : ∀ (n : Nat) (e : Int), Suf a b p e → (a.size - e).toNat = n →
    ∃ E, Suf a b p E ∧ Ev (fun k => text_Difference.l1 k a b p e) (p, a.size - E, b.extract p.toNat (b.size - E).toNat) := by
  intro n
  induction n with
  | zero =>
    intro e he hn
    obtain ⟨e0, e1, e2, e3⟩ := he
    obtain ⟨p0, p1, p2, p3⟩ := hp
    refine ⟨e, ⟨e0, e1, e2, e3⟩, Ev.step (fun k => text_Difference.l1.eq_2 a b p e k) ?_⟩
    rw [wr (i := (a.size : Int) - p) (by omega) (by omega), wr (i := (b.size : Int) - e) (by omega) (by omega), wr (i := (a.size : Int) - e) (by omega) (by omega)]
    exact ev_ifn (by omega) (ev_ifp p0 (ev_ifp (by omega) (ev_ifp (by omega) (ev_some rfl))))
  | succ n ih =>
    intro e he hn
    obtain ⟨e0, e1, e2, e3⟩ := he
    obtain ⟨p0, p1, p2, p3⟩ := hp
    have stop : Ev (fun k => text_Difference.l1 k a b p e) (p, a.size - e, b.extract p.toNat (b.size - e).toNat) → ∃ E, Suf a b p E ∧ Ev (fun k => text_Difference.l1 k a b p e) (p, a.size - E, b.extract p.toNat (b.size - E).toNat) := fun h => ⟨e, ⟨e0, e1, e2, e3⟩, h⟩
    have hend : Ev (fun _ => if 0 ≤ p then (if p ≤ (b.size : Int) - e then (if (b.size : Int) - e ≤ (b.size : Int) then (some (p, (a.size : Int) - e, b.extract (p : Int).toNat ((b.size : Int) - e).toNat)) else none) else none) else none) (p, a.size - e, b.extract p.toNat (b.size - e).toNat) :=
      ev_ifp p0 (ev_ifp (by omega) (ev_ifp (by omega) (ev_some rfl)))
    by_cases c1 : e < a.size - p
    · by_cases c2 : e < b.size - p
      · by_cases c3 : bt a (a.size - 1 - e) = bt b (b.size - 1 - e)
        · obtain ⟨E, hE, hv⟩ := ih (e + 1) ⟨by omega, by omega, by omega, fun i h0 h1 => by
            by_cases h : i = e
            · rw [h]; exact c3
            · exact e3 i h0 (by omega)⟩ (by omega)
          refine ⟨E, hE, Ev.step (fun k => text_Difference.l1.eq_2 a b p e k) ?_⟩
          rw [wr (i := (a.size : Int) - p) (by omega) (by omega), wr (i := (b.size : Int) - p) (by omega) (by omega), wr (i := (a.size : Int) - 1) (by omega) (by omega), wr (i := (b.size : Int) - 1) (by omega) (by omega), wr (i := (a.size : Int) - 1 - e) (by omega) (by omega), wr (i := (b.size : Int) - 1 - e) (by omega) (by omega), w1 e0 (by omega)]
          exact ev_ifp c1 (ev_ifp c2 (ev_ifp (by omega) (ev_ifp (by omega) (ev_ifp (by omega) (ev_ifp (by omega) (ev_ifp c3 hv))))))
        · refine stop (Ev.step (fun k => text_Difference.l1.eq_2 a b p e k) ?_)
          rw [wr (i := (a.size : Int) - p) (by omega) (by omega), wr (i := (b.size : Int) - p) (by omega) (by omega), wr (i := (a.size : Int) - 1) (by omega) (by omega), wr (i := (b.size : Int) - 1) (by omega) (by omega), wr (i := (a.size : Int) - 1 - e) (by omega) (by omega), wr (i := (b.size : Int) - 1 - e) (by omega) (by omega), wr (i := (b.size : Int) - e) (by omega) (by omega), wr (i := (a.size : Int) - e) (by omega) (by omega)]
          exact ev_ifp c1 (ev_ifp c2 (ev_ifp (by omega) (ev_ifp (by omega) (ev_ifp (by omega) (ev_ifp (by omega) (ev_ifn c3 hend))))))
      · refine stop (Ev.step (fun k => text_Difference.l1.eq_2 a b p e k) ?_)
        rw [wr (i := (a.size : Int) - p) (by omega) (by omega), wr (i := (b.size : Int) - p) (by omega) (by omega), wr (i := (b.size : Int) - e) (by omega) (by omega), wr (i := (a.size : Int) - e) (by omega) (by omega)]
        exact ev_ifp c1 (ev_ifn c2 hend)
    · refine stop (Ev.step (fun k => text_Difference.l1.eq_2 a b p e k) ?_)
      rw [wr (i := (a.size : Int) - p) (by omega) (by omega), wr (i := (b.size : Int) - e) (by omega) (by omega), wr (i := (a.size : Int) - e) (by omega) (by omega)]
      exact ev_ifn c1 hend
theorem pre_from (a b : ByteArray) (ha : a.size ≤ 300) (hb : b.size ≤ 300) : ∀ (n : Nat) (p : Int), Pre a b p → (a.size - p).toNat = n →
    ∃ P E, Pre a b P ∧ Suf a b P E ∧ Ev (fun k => text_Difference.l0 k a b p) (P, a.size - E, b.extract P.toNat (b.size - E).toNat) := by
  intro n
  have stop : ∀ p, Pre a b p → ∃ E, Suf a b p E ∧ Ev (fun k => text_Difference.j1 k a b p) (p, a.size - E, b.extract p.toNat (b.size - E).toNat) := fun p hp => by
    obtain ⟨E, hE, hv⟩ := suf_from a b ha hb p hp _ 0 ⟨by omega, by have := hp.2.1; omega, by have := hp.2.2.1; omega, fun i h0 h1 => by omega⟩ rfl
    exact ⟨E, hE, Ev.step (fun k => text_Difference.j1.eq_2 a b p k) hv⟩
  induction n with
  | zero =>
    intro p hp hn
    obtain ⟨E, hE, hv⟩ := stop p hp
    exact ⟨p, E, hp, hE, Ev.step (fun k => text_Difference.l0.eq_2 a b p k) (ev_ifn (by have := hp.2.1; omega) hv)⟩
  | succ n ih =>
    intro p hp hn
    obtain ⟨p0, p1, p2, p3⟩ := hp
    obtain ⟨E, hE, hv⟩ := stop p ⟨p0, p1, p2, p3⟩
    by_cases c2 : p < b.size
    · by_cases c3 : bt a p = bt b p
      · obtain ⟨P, E', hP, hE', hv'⟩ := ih (p + 1) ⟨by omega, by omega, by omega, fun i h0 h1 => by
            by_cases h : i = p
            · rw [h]; exact c3
            · exact p3 i h0 (by omega)⟩ (by omega)
        refine ⟨P, E', hP, hE', Ev.step (fun k => text_Difference.l0.eq_2 a b p k) ?_⟩
        rw [w1 p0 (by omega)]
        exact ev_ifp (by omega) (ev_ifp c2 (ev_ifp p0 (ev_ifp c3 hv')))
      · exact ⟨p, E, ⟨p0, p1, p2, p3⟩, hE, Ev.step (fun k => text_Difference.l0.eq_2 a b p k) (ev_ifp (by omega) (ev_ifp c2 (ev_ifp p0 (ev_ifn c3 hv))))⟩
    · exact ⟨p, E, ⟨p0, p1, p2, p3⟩, hE, Ev.step (fun k => text_Difference.l0.eq_2 a b p k) (ev_ifp (by omega) (ev_ifn c2 hv))⟩
theorem sub_same (a b : ByteArray) (i j n : Nat) (hi : i + n ≤ a.size) (hj : j + n ≤ b.size) (h : ∀ k : Nat, k < n → bt a ((i + k : Nat) : Int) = bt b ((j + k : Nat) : Int)) : sub a.data.toList i (i + n) = sub b.data.toList j (j + n) := by
  apply List.ext_getElem?
  intro k
  by_cases hk : k < n
  · rw [sub_get _ _ _ _ (by omega) (by rw [len_data]; omega), sub_get _ _ _ _ (by omega) (by rw [len_data]; omega)]
    have e := h k hk
    rw [bt_nat a (i + k) (by omega), bt_nat b (j + k) (by omega)] at e
    have e2 : a[i + k] = b[j + k] := UInt8.toNat_inj.mp (by omega)
    rw [Array.getElem?_toList, Array.getElem?_toList]
    have ea : a.data[i + k]? = some a[i + k] := Array.getElem?_eq_getElem (by show i + k < a.size; omega)
    have eb : b.data[j + k]? = some b[j + k] := Array.getElem?_eq_getElem (by show j + k < b.size; omega)
    rw [ea, eb, e2]
  · rw [List.getElem?_eq_none (by rw [sub_len _ _ _ (by rw [len_data]; omega)]; omega), List.getElem?_eq_none (by rw [sub_len _ _ _ (by rw [len_data]; omega)]; omega)]
theorem turns (a b : ByteArray) (P E : Int) (hP : Pre a b P) (hE : Suf a b P E) : applyB a [⟨P, a.size - E, b.extract P.toNat (b.size - E).toNat⟩] 0 = b.data.toList ∧ fitsP a.size [⟨P, a.size - E, b.extract P.toNat (b.size - E).toNat⟩] 0 = 0 := by
  obtain ⟨p0, p1, p2, p3⟩ := hP
  obtain ⟨e0, e1, e2, e3⟩ := hE
  constructor
  · simp only [applyB, ext_sub]
    have h1 : sub a.data.toList (0 : Int).toNat P.toNat = sub b.data.toList 0 P.toNat := by
      have := sub_same a b 0 0 P.toNat (by omega) (by omega) (fun k hk => p3 _ (by omega) (by omega))
      simpa using this
    have h2 : sub a.data.toList (a.size - E).toNat a.size = sub b.data.toList (b.size - E).toNat b.size := by
      have := sub_same a b (a.size - E).toNat (b.size - E).toNat E.toNat (by omega) (by omega) (fun k hk => by
        have := e3 (E - 1 - k) (by omega) (by omega)
        rw [show (a.size : Int) - 1 - (E - 1 - k) = (((a.size - E).toNat + k : Nat) : Int) from by omega, show (b.size : Int) - 1 - (E - 1 - k) = (((b.size - E).toNat + k : Nat) : Int) from by omega] at this
        exact this)
      rwa [show (a.size - E).toNat + E.toNat = a.size from by omega, show (b.size - E).toNat + E.toNat = b.size from by omega] at this
    rw [h1, h2, ← List.append_assoc, sub_sub _ _ _ _ (by omega) (by omega), sub_sub _ _ _ _ (by omega) (by omega), sub_all _ _ (by rw [len_data])]
  · exact ch_fits _ _ ⟨by omega, p0, by show P ≤ a.size - E; omega, by show a.size - E ≤ a.size; omega, by show 0 ≤ a.size - E; omega, by show a.size - E ≤ a.size; omega⟩
theorem TextTurns : assessorlaw01_TextTurns.Pure := by
  intro a b _ _
  refine Ev.rounds ?_
  unfold assessorlaw01_TextTurns.f
  by_cases h1 : (a.size : Int) > 300
  · exact ev_ifp h1 (Ev.step (fun k => assessorlaw01_TextTurns.j0.eq_2 a b true k) (ev_ifp rfl awake_some))
  · refine ev_ifn h1 (Ev.step (fun k => assessorlaw01_TextTurns.j0.eq_2 a b _ k) ?_)
    by_cases h2 : (b.size : Int) > 300
    · exact ev_ifp (decide_eq_true h2) awake_some
    · refine ev_ifn (by simpa using h2) ?_
      obtain ⟨P, E, hP, hE, hv⟩ := pre_from a b (by omega) (by omega) _ 0 ⟨by omega, by omega, by omega, fun i h0 h1 => by omega⟩ rfl
      obtain ⟨t1, t2⟩ := turns a b P E hP hE
      have hf : Ev (fun k => text_Difference.f k a b) (P, a.size - E, b.extract P.toNat (b.size - E).toNat) := hv
      have hr : Ev (fun k => assessorref01_Difference.f k a b) (P, a.size - E, b.extract P.toNat (b.size - E).toNat) := by
        refine Ev.congr (fun k => ?_) hv
        unfold assessorref01_Difference.f
        exact (diff_same k).2.2 a b 0
      have h3 : ∀ x ∈ ([⟨P, a.size - E, b.extract P.toNat (b.size - E).toNat⟩] : List S24), x.f2.size ≤ 300 := by
        intro x hx
        rw [List.mem_singleton.mp hx]
        show (b.extract P.toNat (b.size - E).toNat).size ≤ 300
        rw [ByteArray.size_extract]; omega
      have ha : applyR a [⟨P, a.size - E, b.extract P.toNat (b.size - E).toNat⟩] = (⟨(applyB a [⟨P, a.size - E, b.extract P.toNat (b.size - E).toNat⟩] 0).toArray⟩, 0) := if_pos t2
      refine Ev.bind hf (Ev.bind (apply_ev a (by omega) _ (by simp) h3) (Ev.bind hr (ev_ifp (by simp) ?_)))
      rw [ha]
      refine ev_ifp rfl (ev_ifp ?_ awake_some)
      rw [Lib.toList_data, Lib.toList_data]
      simpa using t1
end Go.Proofs.Ytggcbcleocamlaa.Pure
