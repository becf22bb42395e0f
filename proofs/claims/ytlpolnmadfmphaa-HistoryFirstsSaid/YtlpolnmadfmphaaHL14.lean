/- Own text: HL14. -/
import Derived.Test.YtlpolnmadfmphaaHL12
/- The history layer: the first order comes before any other one. -/
set_option maxRecDepth 100000
set_option linter.unusedVariables false
set_option linter.unusedSimpArgs false
namespace Go.Am
open Go
/-- Where two lists differ first. -/
def cmpX : List Int → List Int → Unit ⊕ Bool
  | a :: l, b :: m => if a = b then cmpX l m else .inr (decide (a < b))
  | _, _ => .inl ()
def comesB (l m : List Int) : Bool := Sum.elim (fun _ => decide (l.length < m.length)) id (cmpX l m)
theorem cmpX_nil_left (m : List Int) : cmpX [] m = .inl () := by cases m <;> rfl
theorem cmpX_nil_right (l : List Int) : cmpX l [] = .inl () := by cases l <;> rfl
theorem H57_eq (l m : List Int) (hl : l.length < Lg) : H57 Ar.std (eInts l) (eInts m) = some (comesB l m) := by
  have e := iter_res (step := H57L0 Ar.std (eInts l) (eInts m)) (min l.length m.length) (fun i => (i : Int)) (fun i => cmpX (l.drop i) (m.drop i)) (fun i hi => by
    have h1 : i < l.length := by omega
    have h2 : i < m.length := by omega
    have g1 := List.getElem?_eq_getElem h1
    have g2 := List.getElem?_eq_getElem h2
    have hst : H57L0 Ar.std (eInts l) (eInts m) (i : Int) = some (bif decide (l[i] = m[i]) then .inl ((i + 1 : Nat) : Int) else .inr (.inr (decide (l[i] < m[i])))) := by
      simp only [H57L0, std_zlt, len_enc, ltC h1, ltC h2, cond_true, bsome, gt_enc g1, gt_enc g2, std_zeq, std_wrp, std_zadd, wrap1 h1 hl]
      cases decide (l[i] = m[i]) <;> rfl
    rw [hst, List.drop_eq_getElem_cons h1, List.drop_eq_getElem_cons h2]
    by_cases hab : l[i] = m[i]
    · left
      refine ⟨by simp [hab], ?_⟩
      simp [cmpX, hab]
    · right
      simp [cmpX, hab]) (by
    have hc : cmpX (l.drop (min l.length m.length)) (m.drop (min l.length m.length)) = .inl () := by
      rcases Nat.le_total l.length m.length with h | h
      · rw [Nat.min_eq_left h, List.drop_length]; exact cmpX_nil_left _
      · rw [Nat.min_eq_right h, List.drop_length]; exact cmpX_nil_right _
    rw [hc]
    rcases Nat.lt_or_ge l.length m.length with h | h
    · have : min l.length m.length = l.length := by omega
      rw [this]
      simp [H57L0]
    · have : min l.length m.length = m.length := by omega
      rw [this]
      simp only [H57L0, std_zlt, len_enc, cond_some, bsome]
      have h2 : (bif decide ((m.length : Int) < (l.length : Int)) then decide ((m.length : Int) < (m.length : Int)) else false) = false := by
        cases decide ((m.length : Int) < (l.length : Int)) <;> simp
      rw [h2]; rfl)
  simp only [List.drop_zero] at e
  have e' : iter (H57L0 Ar.std (eInts l) (eInts m)) 0 = some (cmpX l m) := e
  simp only [H57, e', bsome, comesB, std_zlt, len_enc]
  cases cmpX l m with
  | inl u =>
    have : decide ((l.length : Int) < (m.length : Int)) = decide (l.length < m.length) := by rw [decide_eq_decide]; omega
    simp [this]
  | inr b => rfl
section
variable {S : List Spec} {h : List Call} {must : Call → Call → Bool}
/-- No way on comes before the first one. -/
theorem way_first : ∀ (l : List Nat) (m : Nat) (s : Int × Int), isFrom S h must m s l → comesB (cN l) (cN (way S h must m s)) = false
  | [], m, s, hf => by
    have hw : way S h must m s = [] := by unfold way; rw [ords_eq, show endsM h m = true from hf]; rfl
    rw [hw]; rfl
  | j :: l, m, s, hf => by
    cases he : endsM h m with
    | true =>
      have hw : way S h must m s = [] := by unfold way; rw [ords_eq, he]; rfl
      rw [hw]
      unfold comesB
      rw [show cN ([] : List Nat) = [] from rfl, cmpX_nil_right]
      simp
    | false =>
      obtain ⟨p, hn, hf2⟩ := hf
      have hne : ords S h must p.1 p.2 ≠ [] := by
        intro e
        have := (mem_ords l p.1 p.2).2 hf2
        rw [e] at this; cases this
      have hj0 : 0 < contr S h must m s j := by
        have : contr S h must m s j = (ords S h must p.1 p.2).length := by simp [contr, hn]
        rw [this]; exact List.length_pos_iff.2 hne
      obtain ⟨c, hc, hjl, _⟩ := nextM_some hn
      -- the first one with something behind it
      have hex : ∃ i, i < h.length ∧ 0 < contr S h must m s i := ⟨j, hjl, hj0⟩
      have hmin : ∃ i, (i < h.length ∧ 0 < contr S h must m s i) ∧ ∀ k, k < i → contr S h must m s k = 0 := by
        obtain ⟨i, hi⟩ := hex
        induction i using Nat.strongRecOn with
        | _ i ih =>
          by_cases hk : ∃ k, k < i ∧ 0 < contr S h must m s k
          · obtain ⟨k, h1, h2⟩ := hk
            exact ih k h1 ⟨by omega, h2⟩
          · exact ⟨i, hi, fun k hk2 => Nat.eq_zero_of_not_pos fun h0 => hk ⟨k, hk2, h0⟩⟩
      obtain ⟨i, ⟨hil, hi0⟩, hless⟩ := hmin
      cases hni : nextM S h must m s i with
      | none => simp [contr, hni] at hi0
      | some q =>
        have hq : ords S h must q.1 q.2 ≠ [] := by
          intro e; simp [contr, hni, e] at hi0
        obtain ⟨_, hw⟩ := way_step he hil hni hless hq
        rw [hw]
        have hij : i ≤ j := by
          rcases Nat.lt_or_ge j i with h | h
          · have := hless j h; omega
          · exact h
        show comesB ((j : Int) :: cN l) ((i : Int) :: cN (way S h must q.1 q.2)) = false
        unfold comesB cmpX
        by_cases hje : j = i
        · subst hje
          rw [hn] at hni; cases hni
          rw [if_pos rfl]
          have := way_first l p.1 p.2 hf2
          unfold comesB at this
          cases hcx : cmpX (cN l) (cN (way S h must p.1 p.2)) with
          | inl u => rw [hcx] at this; simp only [Sum.elim_inl, decide_eq_false_iff_not, List.length_cons] at this ⊢; omega
          | inr b => rw [hcx] at this; exact this
        · rw [if_neg (by omega)]
          simp; omega
theorem way_mem {m : Nat} {s : Int × Int} (hne : ords S h must m s ≠ []) : way S h must m s ∈ ords S h must m s := by
  unfold way
  cases ho : ords S h must m s with
  | nil => exact absurd ho hne
  | cons x r => simp
/-- There is one way only to put calls of which any two are one before the other. -/
theorem uniq_list {R : Int → Int → Prop} : ∀ {l m : List Int}, (∀ x, x ∈ l ↔ x ∈ m) → l.Nodup → m.Nodup → l.Pairwise (fun y x => ¬ R x y) → m.Pairwise (fun y x => ¬ R x y) → (∀ x ∈ l, ∀ y ∈ l, x ≠ y → R x y ∨ R y x) → l = m
  | [], m, hm, _, _, _, _, _ => by
    cases m with
    | nil => rfl
    | cons b m => have := (hm b).2 (by simp); cases this
  | a :: l, [], hm, _, _, _, _, _ => by have := (hm a).1 (by simp); cases this
  | a :: l, b :: m, hm, hl, hmn, p1, p2, ht => by
    rw [List.pairwise_cons] at p1 p2
    rw [List.nodup_cons] at hl hmn
    have hab : a = b := by
      refine Classical.byContradiction fun hne => ?_
      have hb : b ∈ l := by
        have := (hm b).2 (by simp)
        rcases List.mem_cons.1 this with h | h
        · exact absurd h.symm hne
        · exact h
      have ha : a ∈ m := by
        have := (hm a).1 (by simp)
        rcases List.mem_cons.1 this with h | h
        · exact absurd h hne
        · exact h
      rcases ht a (by simp) b (by simp [hb]) hne with h | h
      · exact p2.1 a ha h
      · exact p1.1 b hb h
    subst hab
    congr 1
    refine uniq_list (fun x => ?_) hl.2 hmn.2 p1.2 p2.2 (fun x hx y hy hne => ht x (by simp [hx]) y (by simp [hy]) hne)
    have := hm x
    simp only [List.mem_cons] at this
    constructor
    · intro hx
      rcases this.1 (.inr hx) with h | h
      · subst h; exact absurd hx hl.1
      · exact h
    · intro hx
      rcases this.2 (.inr hx) with h | h
      · subst h; exact absurd hx hmn.1
      · exact h
theorem alone_total (hok : ∀ c ∈ h, callOk c = true) (hw : widthH h < 2) {i j : Nat} {c d : Call} (hi : h[i]? = some c) (hj : h[j]? = some d) (hne : i ≠ j) : bef c d = true ∨ bef d c = true := by
  have hcc := (callOk_iff c).1 (hok c (List.mem_of_getElem? hi))
  have hdd := (callOk_iff d).1 (hok d (List.mem_of_getElem? hj))
  refine Classical.byContradiction fun hn => ?_
  simp only [not_or, Bool.not_eq_true, bef, Bool.and_eq_false_iff, decide_eq_false_iff_not] at hn
  -- the one that begins later
  have key : ∀ m : Int, und m c = true → und m d = true → (∃ e ∈ h, e.fr = m) → False := by
    rintro m h1 h2 ⟨e, he, rfl⟩
    have h3 : many h e.fr ≤ widthH h := maxI_le.1 (Nat.le_refl (widthH h)) _ (List.mem_map.2 ⟨e, he, rfl⟩)
    have h4 : 2 ≤ many h e.fr := by
      unfold many
      rw [← List.countP_eq_length_filter]
      have hlt : ∀ {i j : Nat} {c d : Call}, h[i]? = some c → h[j]? = some d → i < j → und e.fr c = true → und e.fr d = true → 2 ≤ h.countP (und e.fr) := by
        intro i j c d hi hj hij hc hd
        have hil := (List.getElem?_eq_some_iff.1 hi).1
        have hjl := (List.getElem?_eq_some_iff.1 hj).1
        rw [← List.take_append_drop j h, List.countP_append]
        have c1 : 1 ≤ (h.take j).countP (und e.fr) := by
          rw [Nat.one_le_iff_ne_zero, Ne, List.countP_eq_zero]
          intro hall
          refine hall c ?_ hc
          exact List.mem_of_getElem? (i := i) (by rw [List.getElem?_take, if_pos hij]; exact hi)
        have c2 : 1 ≤ (h.drop j).countP (und e.fr) := by
          rw [Nat.one_le_iff_ne_zero, Ne, List.countP_eq_zero]
          intro hall
          refine hall d ?_ hd
          exact List.mem_of_getElem? (i := 0) (by rw [List.getElem?_drop]; exact hj)
        omega
      rcases Nat.lt_or_gt_of_ne hne with h | h
      · exact hlt hi hj h h1 h2
      · exact hlt hj hi h h2 h1
    omega
  by_cases hle : c.fr ≤ d.fr
  · refine key d.fr ?_ ?_ ⟨d, List.mem_of_getElem? hj, rfl⟩
    · simp only [und, Bool.and_eq_true, Bool.or_eq_true, decide_eq_true_eq]; omega
    · simp only [und, Bool.and_eq_true, Bool.or_eq_true, decide_eq_true_eq]; omega
  · refine key c.fr ?_ ?_ ⟨c, List.mem_of_getElem? hi, rfl⟩
    · simp only [und, Bool.and_eq_true, Bool.or_eq_true, decide_eq_true_eq]; omega
    · simp only [und, Bool.and_eq_true, Bool.or_eq_true, decide_eq_true_eq]; omega
theorem isOrdM_parts {l : List Int} (ho : isOrdM S h must l = true) : (∀ x ∈ l, inH h x = true) ∧ l.Nodup ∧ (∀ (i : Nat) c, h[i]? = some c → c.to ≠ 0 → (i : Int) ∈ l) ∧ l.Pairwise (fun y x => must (hc h x) (hc h y) = false) ∧ allowsL S h l = true := by
  simp only [isOrdM, isL, Bool.and_eq_true] at ho
  obtain ⟨⟨o1, o2⟩, o3, o4⟩ := ho
  obtain ⟨n1, n2⟩ := nums_iff.1 o1
  exact ⟨n1, n2, full_iff.1 o2, (keepsL_iff _ _ _).1 o3, o4⟩
theorem alone_one (hok : ∀ c ∈ h, callOk c = true) (hw : widthH h < 2) (hret : ∀ c ∈ h, c.to ≠ 0) : (ords S h bef 0 (0, 0)).length ≤ 1 := by
  refine Nat.le_of_not_lt fun hlt => ?_
  have hall : ∀ x ∈ ords S h bef 0 (0, 0), ∀ y ∈ ords S h bef 0 (0, 0), x = y := by
    intro x hx y hy
    obtain ⟨x1, x2, x3, x4, _⟩ := isOrdM_parts ((mem_ords0 hok (bef_must hok) x).1 hx)
    obtain ⟨y1, y2, y3, y4, _⟩ := isOrdM_parts ((mem_ords0 hok (bef_must hok) y).1 hy)
    have hmem : ∀ {l : List Nat}, (∀ x ∈ cN l, inH h x = true) → (∀ (i : Nat) c, h[i]? = some c → c.to ≠ 0 → (i : Int) ∈ cN l) → ∀ z : Int, z ∈ cN l ↔ inH h z = true := by
      intro l h1 h2 z
      refine ⟨h1 z, fun hz => ?_⟩
      have hg := hc_get hz
      have := h2 z.toNat _ hg (hret _ (hc_mem hz))
      have e := inH_iff.1 hz
      rw [show ((z.toNat : Nat) : Int) = z by omega] at this
      exact this
    have he : cN x = cN y := by
      refine uniq_list (R := fun a b => bef (hc h a) (hc h b) = true) (fun z => by rw [hmem x1 x3, hmem y1 y3]) x2 y2 (x4.imp fun hq => by simp [hq]) (y4.imp fun hq => by simp [hq]) (fun a ha b hb hne => ?_)
      have ga := hc_get (x1 a ha)
      have gb := hc_get (x1 b hb)
      have ia := inH_iff.1 (x1 a ha)
      have ib := inH_iff.1 (x1 b hb)
      exact alone_total hok hw ga gb (by omega)
    unfold cN at he
    have := congrArg (List.map Int.toNat) he
    simpa [List.map_map, Function.comp_def] using this
  have hnd := ords_nodup (S := S) (h := h) (must := bef) _ 0 (0, 0) (Nat.le_refl _)
  cases ho : ords S h bef 0 (0, 0) with
  | nil => rw [ho] at hlt; simp at hlt
  | cons a r =>
    cases r with
    | nil => rw [ho] at hlt; simp at hlt
    | cons b r =>
      rw [ho] at hall hnd
      have := hall a (by simp) b (by simp)
      subst this
      simp at hnd
end
theorem H16L0_eq (h : List Call) (hl : h.length ≤ 40) : iter (H16L0 Ar.std (eCalls h)) (false, 0) = some (h.any fun c => decide (c.to = 0)) := by
  have := iter_pre (step := H16L0 Ar.std (eCalls h)) h (fun pre => pre.any fun c => decide (c.to = 0)) (fun b i => (b, (i : Int))) id
    (fun i c hc hi => by
      simp only [H16L0, std_zlt, std_zeq, len_enc, ltC hi, cond_true, gt_enc hc, bsome, cond_some, std_wrp, std_zadd, wrap1 hi (show h.length < 9223372036854775808 by omega), List.any_append, List.any_cons, List.any_nil, Bool.or_false, bif_or]) (by simp [H16L0])
  exact this
theorem isOrd_M (S : List Spec) (h : List Call) (l : List Int) : isOrd S h l = isOrdM S h bef l := rfl
theorem H16_ok (S : List Spec) (h : List Call) (l : List Int) (hs : SpecsOk S) (hl : h.length < Lg) (hll : l.length < Lg) : H16 Ar.std (eSpecs S) (eCalls h) (eInts l) = some true := by
  simp only [H16, H17_eq S hs, H18_eq, H39_eq S hs hl, bsome, H19_eq, std_zlt, len_enc]
  cases hfor : areS S && forH S h with
  | false => cases largeS S <;> cases decide (40 < (h.length : Int)) <;> cases decide (60 < (l.length : Int)) <;> rfl
  | true =>
    rw [Bool.and_eq_true] at hfor
    obtain ⟨ha, hf⟩ := hfor
    have he : errH S h = 0 := by simp [errH, ha, hf]
    obtain ⟨h8, hok2⟩ := forH_in ha hf
    have hok : ∀ c ∈ h, callOk c = true := fun c hc => (hok2 c hc).1
    have hv : validH h = true := by simp only [forH, Bool.and_eq_true] at hf; exact hf.1
    have e1 : H26 Ar.std (eSpecs S) (eCalls h) = some (!(ords0 S h).isEmpty, 0) := by rw [H26_eq S h hs hl, he]; rfl
    have e2 : H28 Ar.std (eSpecs S) (eCalls h) = some (!(ordsT S h).isEmpty, 0) := by rw [H28_eq S h hs hl, he]; rfl
    have e3 : H30 Ar.std (eSpecs S) (eCalls h) = some (((ords0 S h).length : Int), 0) := by rw [H30_eq S h hs hl, he]; rfl
    have e4 : H37 Ar.std (eCalls h) = some (decide (widthH h < 2), 0) := by rw [H37_eq hl]; simp [aloR, hv]
    have e5 : H46 Ar.std (eSpecs S) (eCalls h) (eInts l) = some (isOrd S h l, 0) := by rw [H46_eq S h hs hl l hll]; simp [isOrdR, he]
    have e6 : H43 Ar.std (eSpecs S) (eCalls h) = some (eNats (orderR S h).1, (orderR S h).2) := H43_eq S h hs hl
    -- who is an order is found
    have hother : isOrd S h l = true → l = cN (l.map Int.toNat) ∧ l.map Int.toNat ∈ ords0 S h := by
      intro ho
      have hin := (isOrdM_parts (must := bef) ho).1
      have e := cN_of hin
      refine ⟨e, (mem_ords0 hok (bef_must hok) _).2 ?_⟩
      rw [← e]; exact ho
    have hn1 : (decide (widthH h < 2) && !(h.any fun c => decide (c.to = 0)) && decide (1 < ((ords0 S h).length : Int))) = false := by
      cases hw : decide (widthH h < 2) with
      | false => rfl
      | true =>
        cases hop : h.any fun c => decide (c.to = 0) with
        | true => rfl
        | false =>
          have := alone_one (S := S) hok (by simpa using hw) (fun c hc hz => by
            have := List.any_eq_false.1 hop c hc
            simp [hz] at this)
          have h1 : (ords0 S h).length ≤ 1 := this
          simp; omega
    have hn2 : (bif decide (widthH h < 2) then bif h.any (fun c => decide (c.to = 0)) then some false else some (decide (1 < ((ords0 S h).length : Int))) else some false) = some false := by
      cases hw : decide (widthH h < 2) <;> cases hop : h.any (fun c => decide (c.to = 0)) <;> simp only [hw, hop, cond_true, cond_false, Bool.true_and, Bool.not_false] at hn1 ⊢
      rw [hn1]
    have hl40 : h.length ≤ 40 := by omega
    cases ho : ords0 S h with
    | nil =>
      have hor : orderR S h = ([], 5) := by simp [orderR, he, ho]
      have hno : isOrd S h l = false := by
        cases hi : isOrd S h l with
        | false => rfl
        | true => have := (hother hi).2; rw [ho] at this; cases this
      rw [ho] at e1 e3 hn2
      rw [hor] at e6
      rw [hno] at e5
      simp only [e1, e2, e3, e4, e5, e6, bsome, H16L0_eq h hl40, hn2, std_zeq, std_zlt, std_beq]
      cases largeS S <;> cases decide (40 < (h.length : Int)) <;> cases decide (60 < (l.length : Int)) <;> rfl
    | cons x r =>
      have hor : orderR S h = (x, 0) := by simp [orderR, he, ho]
      have hxm : x ∈ ords0 S h := by rw [ho]; simp
      have hxo : isOrdM S h bef (cN x) = true := (mem_ords0 hok (bef_must hok) x).1 hxm
      obtain ⟨x1, x2, x3, x4, x5⟩ := isOrdM_parts hxo
      have hisl : isL h (cN x) = true := by simp only [isOrdM, Bool.and_eq_true] at hxo; exact hxo.1
      have hk1 : keepsL bef h (cN x) = true := (keepsL_iff _ _ _).2 x4
      have hk2 : keepsL byT h (cN x) = true := by
        rw [keepsL_iff]
        refine List.Pairwise.imp_of_mem ?_ x4
        intro a b hma hmb hq
        cases hb : byT (hc h b) (hc h a) with
        | false => rfl
        | true => rw [byT_bef hv (hc_mem (x1 b hmb)) (hc_mem (x1 a hma)) hb] at hq; cases hq
      have hT : ordsT S h ≠ [] := by
        intro e
        have : x ∈ ordsT S h := by
          refine (mem_ords0 hok (byT_must hv) x).2 ?_
          simp only [isOrdM, hisl, hk2, x5]; rfl
        rw [e] at this; cases this
      have hTe : (ordsT S h).isEmpty = false := by cases hq : ordsT S h with | nil => exact absurd hq hT | cons _ _ => rfl
      have hxl : (cN x).length < Lg := by
        have : nums h (cN x) = true := nums_iff.2 ⟨x1, x2⟩
        have := nums_len this
        exact (by omega : (cN x).length < 9223372036854775808)
      have e7 : H46 Ar.std (eSpecs S) (eCalls h) (eNats x) = some (true, 0) := by
        rw [eNats_eq, H46_eq S h hs hl (cN x) hxl]; simp [isOrdR, he, isOrd_M, hxo]
      have e8 : H51 Ar.std (eCalls h) (eNats x) = some (true, true, 0) := by
        rw [eNats_eq, H51_eq h hl (cN x) hxl]; simp [keepR, hv, hisl, hk1, hk2]
      have e9 : H53 Ar.std (eSpecs S) (eCalls h) (eNats x) = some (true, 0) := by
        rw [eNats_eq, H53_eq S h hs hl (cN x) hxl]; simp [alwR, he, hisl, x5]
      have e10 : isOrd S h l = true → H57 Ar.std (eInts l) (eNats x) = some false := by
        intro hi
        obtain ⟨q1, q2⟩ := hother hi
        rw [eNats_eq, H57_eq l (cN x) hll]
        have hw : way S h bef 0 (0, 0) = x := by unfold way; rw [show ords S h bef 0 (0, 0) = x :: r from ho]; rfl
        have := way_first _ _ _ ((mem_ords _ _ _).1 q2)
        rw [hw, ← q1] at this
        rw [this]
      rw [ho] at e1 e3 hn2
      rw [hor] at e6
      have hp : decide (0 < (((x :: r).length : Nat) : Int)) = true := decide_eq_true (by simp only [List.length_cons]; omega)
      simp only [e1, e2, e3, e4, e5, e6, bsome, H16L0_eq h hl40, hn2, std_zeq, std_zlt, std_beq, hTe, hp, e7, e8, e9, List.isEmpty_cons, Bool.not_false, decide_true, cond_true, beq_self_eq_true, Bool.not_true, cond_false]
      cases hi : isOrd S h l with
      | false => cases largeS S <;> cases decide (40 < (h.length : Int)) <;> cases decide (60 < (l.length : Int)) <;> rfl
      | true =>
        simp only [e10 hi]
        cases largeS S <;> cases decide (40 < (h.length : Int)) <;> cases decide (60 < (l.length : Int)) <;> rfl
end Go.Am

/- The history layer: calls one after the other. -/
set_option maxRecDepth 100000
set_option linter.unusedVariables false
set_option linter.unusedSimpArgs false
namespace Go.Am
open Go
theorem cCall_cells (c d : Call) : ([D.int .i64 c.1, .int .i64 c.2.1, .int .i64 c.2.2.1, .int .i64 c.2.2.2.1, .int .i64 c.2.2.2.2.1, .int .i64 c.2.2.2.2.2] = [D.int .i64 d.1, .int .i64 d.2.1, .int .i64 d.2.2.1, .int .i64 d.2.2.2.1, .int .i64 d.2.2.2.2.1, .int .i64 d.2.2.2.2.2]) ↔ c = d := by
  obtain ⟨a, b, c, e, f, g⟩ := c
  obtain ⟨a', b', c', e', f', g'⟩ := d
  simp
theorem H34_eq (l m : List Call) (hl : l.length < Lg) : H34 Ar.std (eCalls l) (eCalls m) = some (decide (l = m)) := by
  simp only [H34, std_zeq, len_enc]
  by_cases hlen : l.length = m.length
  · have e : iter (H34L0 Ar.std (eCalls l) (eCalls m)) 0 = some (bif (List.range l.length).any (fun i => decide (l[i]? ≠ m[i]?)) then .inr () else .inl ()) := by
      refine iter_rng l.length _ _ _ (fun i hi => ?_) ?_
      · have hi2 : i < m.length := by omega
        have h1 := List.getElem?_eq_getElem hi
        have h2 := List.getElem?_eq_getElem hi2
        generalize l[i] = c at h1
        generalize m[i] = d at h2
        have hd : (∀ {inst : Decidable ([D.int .i64 c.1, .int .i64 c.2.1, .int .i64 c.2.2.1, .int .i64 c.2.2.2.1, .int .i64 c.2.2.2.2.1, .int .i64 c.2.2.2.2.2] = [D.int .i64 d.1, .int .i64 d.2.1, .int .i64 d.2.2.1, .int .i64 d.2.2.2.1, .int .i64 d.2.2.2.2.1, .int .i64 d.2.2.2.2.2])}, @decide _ inst = decide (c = d)) := by
          intro inst
          rw [decide_eq_decide]; exact cCall_cells c d
        simp only [H34L0, std_zlt, len_enc, ltC hi, cond_true, gt_enc h1, gt_enc h2, bsome, std_deq, hd, std_wrp, std_zadd, wrap1 hi hl, h1, h2]
        by_cases he : c = d
        · subst he; simp
        · simp [he]
      · simp [H34L0]
    have hc : decide ((l.length : Int) = (m.length : Int)) = true := decide_eq_true (by omega)
    simp only [hc, cond_true, e, bsome]
    by_cases he : l = m
    · subst he; simp
    · have : (List.range l.length).any (fun i => decide (l[i]? ≠ m[i]?)) = true := by
        refine Classical.byContradiction fun hn => he ?_
        rw [Bool.not_eq_true, List.any_eq_false] at hn
        refine List.ext_getElem? fun i => ?_
        rcases Nat.lt_or_ge i l.length with h | h
        · have := hn i (List.mem_range.2 h); simpa using this
        · rw [List.getElem?_eq_none h, List.getElem?_eq_none (by omega)]
      rw [this]; simp [he]
  · have hc : decide ((l.length : Int) = (m.length : Int)) = false := decide_eq_false (by omega)
    have : ¬ l = m := fun e => hlen (by rw [e])
    simp [hc, this]
/-- A call that may be played. -/
def playOk (S : List Spec) (c : Call) : Bool := decide (c.sa = 0) && (decide (c.fr = 0) && (decide (c.to = 0) && (btw 0 c.ob ((S.length : Int) - 1) && (btw 0 c.op ((spOf S c).2.1 - 1) && btw 0 c.th 3))))
def mkC (S : List Spec) (c : Call) (i : Nat) (s : Int × Int) : Call := (c.th, c.ob, c.op, nx (spOf S c).2.2.2 (nowOf c s) c.op, 2 * (i : Int) + 1, 2 * (i : Int) + 2)
def playS (S : List Spec) (q : (Int × Int) × List Call) (c : Call) : (Int × Int) × List Call := (doS S c q.1, q.2 ++ [mkC S c q.2.length q.1])
def playL (S : List Spec) (w : List Call) : (Int × Int) × List Call := w.foldl (playS S) ((0, 0), [])
def playR (S : List Spec) (w : List Call) : List Call × Int := bif areS S then (bif decide (8 < (w.length : Int)) then ([], 20) else bif w.all (playOk S) then ((playL S w).2, 0) else ([], 20)) else ([], 10)
theorem playOk_in {S : List Spec} (ha : areS S = true) {c : Call} (hp : playOk S c = true) : callIn S c := by
  simp only [playOk, Bool.and_eq_true, decide_eq_true_eq, btw_true] at hp
  simp only [areS, Bool.and_eq_true, btw_true, List.all_eq_true] at ha
  have hlt : c.ob.toNat < S.length := by omega
  have hx := List.getElem?_eq_getElem hlt
  have hs : spOf S c = S[c.ob.toNat] := by simp [spOf, List.getD_eq_getElem?_getD, hx]
  refine ⟨by omega, _, hx, ha.2 _ (List.getElem_mem hlt), by omega, ?_⟩
  rw [← hs]; omega
theorem play_fold (S : List Spec) : ∀ (w : List Call) (q : (Int × Int) × List Call), foldE (fun q c => bif playOk S c then .inl (playS S q c) else .inr (.inr ())) (fun q => (.inl (eCalls q.2) : List D ⊕ Unit)) w q = bif w.all (playOk S) then .inl (eCalls (w.foldl (playS S) q).2) else .inr ()
  | [], q => rfl
  | c :: w, q => by
    rw [foldE_cons]
    cases hp : playOk S c with
    | true => simp only [cond_true, Sum.elim_inl, play_fold S w, List.all_cons, hp, Bool.true_and, List.foldl_cons]
    | false => simp only [cond_false, Sum.elim_inr, List.all_cons, hp, Bool.false_and]; rfl
theorem btw_lo {n m : Int} : (!decide (n < 0) && !decide (m ≤ n)) = btw 0 n (m - 1) := by
  rw [Bool.eq_iff_iff]; simp [btw]; omega
theorem mul2 {i : Nat} (h : i ≤ 40) : IntKind.i64.wrap (IntKind.i64.wrap (2 * (i : Int)) + 1) = 2 * (i : Int) + 1 ∧ IntKind.i64.wrap (IntKind.i64.wrap (2 * (i : Int)) + 2) = 2 * (i : Int) + 2 := by
  rw [i64w (2 * (i : Int)) (by omega) (by omega)]
  exact ⟨i64w _ (by omega) (by omega), i64w _ (by omega) (by omega)⟩
section
variable (S : List Spec) (w : List Call) (hs : SpecsOk S) (hw : w.length < Lg)
include hs hw
theorem H32_eq : H32 Ar.std (eSpecs S) (eCalls w) = some (eCalls (playR S w).1, (playR S w).2) := by
  simp only [H32, H58_eq S hs, bsome, playR, std_zlt, len_enc]
  have haS : (btw 1 (S.length : Int) 2 && S.all specOk) = areS S := rfl
  rw [haS]
  cases ha : areS S with
  | false => rfl
  | true =>
    by_cases h8 : 8 < (w.length : Int)
    · simp only [h8, decide_true, cond_true]; rfl
    · have hS : 1 ≤ S.length ∧ S.length ≤ 2 := by
        have := ha; simp only [areS, Bool.and_eq_true, btw_true] at this; omega
      have hloop := iter_list (step := H32L0 Ar.std (eSpecs S) (eCalls w)) w (fun (q : (Int × Int) × List Call) i => (q.1.1, q.1.2, eCalls q.2, (i : Int))) (fun q c => bif playOk S c then .inl (playS S q c) else .inr (.inr ())) (fun q => .inl (eCalls q.2)) (fun i q => stOk S q.1 ∧ q.2.length = i)
        (fun i c q hc hq => by
          obtain ⟨hst, hlen⟩ := hq
          have hi := (List.getElem?_eq_some_iff.1 hc).1
          have hi8 : i ≤ 40 := by omega
          have hcond : ((bif decide (c.2.2.2.1 = 0) then bif decide (c.2.2.2.2.1 = 0) then bif decide (c.2.2.2.2.2 = 0) then bif decide (c.2.1 < 0) then some true else bif decide ((S.length : Int) ≤ c.2.1) then some true else bif decide (c.2.2.1 < 0) then some true else
              (gt Ar.std cSpec (eSpecs S) c.2.1).bind fun x => bif decide (x.2.1 ≤ c.2.2.1) then some true else some (!btw 0 c.1 3)
              else some true else some true else some true) : Option Bool) = some (!playOk S c) := by
            unfold playOk
            by_cases h1 : c.2.2.2.1 = 0 <;> by_cases h2 : c.2.2.2.2.1 = 0 <;> by_cases h3 : c.2.2.2.2.2 = 0 <;> simp only [h1, h2, h3, decide_true, decide_false, cond_true, cond_false, Bool.true_and, Bool.false_and, Bool.not_false, Call.sa, Call.fr, Call.to]
            by_cases h4 : c.2.1 < 0
            · have : btw 0 c.2.1 ((S.length : Int) - 1) = false := by rw [Bool.eq_false_iff]; intro hb; rw [btw_true] at hb; omega
              simp [h4, this, Call.ob]
            by_cases h5 : (S.length : Int) ≤ c.2.1
            · have : btw 0 c.2.1 ((S.length : Int) - 1) = false := by rw [Bool.eq_false_iff]; intro hb; rw [btw_true] at hb; omega
              simp [h4, h5, this, Call.ob]
            have hb1 : btw 0 c.2.1 ((S.length : Int) - 1) = true := by rw [btw_true]; omega
            have hlt : c.2.1.toNat < S.length := by omega
            have hx := List.getElem?_eq_getElem hlt
            have hsp : spOf S c = S[c.2.1.toNat] := by simp [spOf, List.getD_eq_getElem?_getD, hx]
            have e1 := gt_eSpecsI (l := S) (i := c.2.1) (by omega) hx
            by_cases h6 : c.2.2.1 < 0
            · have : btw 0 c.2.2.1 ((spOf S c).2.1 - 1) = false := by rw [Bool.eq_false_iff]; intro hb; rw [btw_true] at hb; omega
              simp [h4, h5, h6, this, hb1, Call.ob, Call.op]
            simp only [h4, h5, h6, decide_false, cond_false, e1, bsome, hb1, Bool.true_and, Call.ob, Call.op]
            by_cases h7 : S[c.2.1.toNat].2.1 ≤ c.2.2.1
            · have : btw 0 c.2.2.1 ((spOf S c).2.1 - 1) = false := by rw [Bool.eq_false_iff]; intro hb; rw [btw_true, hsp] at hb; omega
              simp [h7, this]
            · have : btw 0 c.2.2.1 ((spOf S c).2.1 - 1) = true := by rw [btw_true, hsp]; omega
              simp [h7, this]
          have hst2 : H32L0 Ar.std (eSpecs S) (eCalls w) (q.1.1, q.1.2, eCalls q.2, (i : Int)) = some (bif playOk S c then .inl ((playS S q c).1.1, (playS S q c).1.2, eCalls (playS S q c).2, ((i + 1 : Nat) : Int)) else .inr (.inr ())) := by
            simp only [H32L0, std_zlt, std_zle, std_zeq, len_enc, List.length_map, ltC hi, cond_true, gt_enc hc, bsome, H77_eq, hcond]
            cases hp : playOk S c with
            | false => rfl
            | true =>
              have hcin := playOk_in ha hp
              simp only [playOk, Bool.and_eq_true, decide_eq_true_eq] at hp
              obtain ⟨p1, p2, p3, _⟩ := hp
              simp only [Call.sa, Call.fr, Call.to] at p1 p2 p3
              obtain ⟨x, hx, e, hsx, h1, h2, h3, h4⟩ := callIn_now hcin hst
              obtain ⟨_, _, t1, t2⟩ := (specOk_iff x).1 hsx
              obtain ⟨r, k1, k2, k3, k4⟩ := tab_get t2 h1 h2 h3 h4
              have hob : 0 ≤ c.2.1 := by rcases hcin.1 with h | h <;> simp only [Call.ob] at h <;> omega
              have e1 := gt_eSpecsI (l := S) hob hx
              have e4 := gt_eTabI h1 k1
              have e5 := gt_encI (c := cI .i64) (l := r) h3 k2
              have hsays : ((gt Ar.std cSpec (eSpecs S) c.2.1).bind fun y => bif decide (c.2.1 = 0) then (gt Ar.std (cL 1) y.2.2.2 q.1.1).bind fun a => (gt Ar.std (cI .i64) a c.2.2.1).bind fun b => some b
                  else bif decide (c.2.1 = 1) then (gt Ar.std (cL 1) y.2.2.2 q.1.2).bind fun a => (gt Ar.std (cI .i64) a c.2.2.1).bind fun b => some b else none) = some (nx (spOf S c).2.2.2 (nowOf c q.1) c.op) := by
                rw [e1, e]
                rcases hcin.1 with h | h
                · simp only [Call.ob] at h
                  simp only [nowOf, Call.ob, h, decide_true, cond_true] at e4 e5 ⊢
                  simp only [bsome, e4, e5]
                · simp only [Call.ob] at h
                  have hz : decide ((1 : Int) = 0) = false := rfl
                  simp only [nowOf, Call.ob, h, hz, decide_true, cond_true, cond_false] at e4 e5 ⊢
                  simp only [bsome, e4, e5]
              -- the call with its answer does what the call does
              have hc2 : callIn S (c.1, c.2.1, c.2.2.1, nx (spOf S c).2.2.2 (nowOf c q.1) c.op, c.2.2.2.2.1, c.2.2.2.2.2) := hcin
              have hdoes := H78a_eq hc2 hst
              have hap : ap Ar.std (eCalls q.2) [.agg [.int .i64 c.1, .int .i64 c.2.1, .int .i64 c.2.2.1, .int .i64 (nx (spOf S c).2.2.2 (nowOf c q.1) c.op), .int .i64 (2 * (i : Int) + 1), .int .i64 (2 * (i : Int) + 2)]] = some (eCalls (q.2 ++ [mkC S c q.2.length q.1])) := by
                refine ap_enc1 ?_ (by omega)
                rw [hlen]; rfl
              simp only [Bool.not_true, cond_false, hsays, bsome]
              simp only [Call.ob, Call.op] at hdoes hap ⊢
              rw [hdoes]
              simp only [bsome, std_wrp, std_zadd, std_zmul, (mul2 hi8).1, (mul2 hi8).2, hap, wrap1 hi hw, cond_true]
              rfl
          rw [hst2]
          cases hp : playOk S c with
          | true => exact .inl ⟨_, rfl, ⟨doS_ok (playOk_in ha hp) hst, by simp [playS, hlen]⟩, rfl⟩
          | false => exact .inr ⟨_, rfl, rfl⟩)
        (fun q hq => by simp [H32L0]) ((0, 0), []) ⟨stOk_zero ha, rfl⟩
      rw [play_fold] at hloop
      have hloop' : iter (H32L0 Ar.std (eSpecs S) (eCalls w)) (0, 0, [], 0) = some (bif w.all (playOk S) then .inl (eCalls (playL S w).2) else .inr ()) := hloop
      simp only [h8, decide_false, cond_false, cond_true, hloop', bsome]
      cases w.all (playOk S) <;> rfl
end
end Go.Am
namespace Go.Am
section
variable (S : List Spec) (w : List Call) (hs : SpecsOk S) (hw : w.length < Lg)
include hs hw
theorem H33_eq : H33 Ar.std (eSpecs S) (eCalls w) = some (eCalls (playR S w).1, (playR S w).2) := by
  simp only [H33, H60_eq S hs, bsome, playR, std_zlt, len_enc]
  have haS : (btw 1 (S.length : Int) 2 && S.all specOk) = areS S := rfl
  rw [haS]
  cases ha : areS S with
  | false => rfl
  | true =>
    by_cases h8 : 8 < (w.length : Int)
    · simp only [h8, decide_true, cond_true]; rfl
    · have hS : 1 ≤ S.length ∧ S.length ≤ 2 := by
        have := ha; simp only [areS, Bool.and_eq_true, btw_true] at this; omega
      have hwS : IntKind.i64.wrap ((S.length : Int) - 1) = (S.length : Int) - 1 := wrapS (by omega) (by omega)
      have hloop := iter_list (step := H33L0 Ar.std (eSpecs S) (eCalls w)) w (fun (q : (Int × Int) × List Call) i => (eCalls q.2, (i : Int), eInts (stL S q.1))) (fun q c => bif playOk S c then .inl (playS S q c) else .inr (.inr (eInts (stL S q.1)))) (fun q => .inl (eCalls q.2, eInts (stL S q.1))) (fun i q => stOk S q.1 ∧ q.2.length = i)
        (fun i c q hc hq => by
          obtain ⟨hst, hlen⟩ := hq
          have hi := (List.getElem?_eq_some_iff.1 hc).1
          have hi8 : i ≤ 40 := by omega
          -- which spec is looked at
          have hcond : ((bif btw 0 c.1 3 then bif btw 0 c.2.1 ((S.length : Int) - 1) then (gt Ar.std cSpec (eSpecs S) (Ar.std.zmax (Ar.std.zmin c.2.1 ((S.length : Int) - 1)) 0)).bind fun x =>
              bif btw 0 c.2.2.1 (IntKind.i64.wrap (x.2.1 - 1)) then bif decide (c.2.2.2.1 = 0) then bif decide (c.2.2.2.2.1 = 0) then some (!decide (c.2.2.2.2.2 = 0)) else some true else some true else some true
              else some true else some true) : Option Bool) = some (!playOk S c) := by
            unfold playOk
            cases hb0 : btw 0 c.1 3 with
            | false => simp [Call.th, hb0]
            | true =>
              cases hb1 : btw 0 c.2.1 ((S.length : Int) - 1) with
              | false => simp [Call.ob, hb1]
              | true =>
                have hb := (btw_true _ _ _).1 hb1
                have hm : Ar.std.zmax (Ar.std.zmin c.2.1 ((S.length : Int) - 1)) 0 = c.2.1 := by
                  simp only [std_zmax, std_zmin]; split <;> split <;> omega
                have hlt : c.2.1.toNat < S.length := by omega
                have hx := List.getElem?_eq_getElem hlt
                have hxm := List.getElem_mem hlt
                generalize S[c.2.1.toNat] = x at hx hxm
                have hsp : spOf S c = x := by simp [spOf, List.getD_eq_getElem?_getD, hx]
                have e1 := gt_eSpecsI (l := S) hb.1 hx
                have hx1 : 1 ≤ x.2.1 ∧ x.2.1 ≤ 4 := by
                  have := ha; simp only [areS, Bool.and_eq_true, List.all_eq_true] at this
                  exact ((specOk_iff x).1 (this.2 x hxm)).2.1
                have hwx : IntKind.i64.wrap (x.2.1 - 1) = x.2.1 - 1 := wrapS (by omega) (by omega)
                simp only [cond_true, hm, e1, bsome, hwx, Call.ob, Call.op, Call.th, Call.sa, Call.fr, Call.to, hb0, hb1, hsp, Bool.and_true, Bool.true_and]
                cases btw 0 c.2.2.1 (x.2.1 - 1) <;> by_cases h1 : c.2.2.2.1 = 0 <;> by_cases h2 : c.2.2.2.2.1 = 0 <;> by_cases h3 : c.2.2.2.2.2 = 0 <;> simp [h1, h2, h3]
          have hst2 : H33L0 Ar.std (eSpecs S) (eCalls w) (eCalls q.2, (i : Int), eInts (stL S q.1)) = some (bif playOk S c then .inl (eCalls (playS S q c).2, ((i + 1 : Nat) : Int), eInts (stL S (playS S q c).1)) else .inr (.inr (eInts (stL S q.1)))) := by
            simp only [H33L0, std_zlt, std_zle, std_zeq, len_enc, List.length_map, ltC hi, cond_true, gt_enc hc, bsome, H67_eq, std_wrp, std_zsub, hwS, hcond]
            cases hp : playOk S c with
            | false => rfl
            | true =>
              have hcin := playOk_in ha hp
              obtain ⟨x, hx, e, hsx, h1, h2, h3, h4⟩ := callIn_now hcin hst
              obtain ⟨_, _, t1, t2⟩ := (specOk_iff x).1 hsx
              obtain ⟨r, g1, g2, g3, g4⟩ := tab_get t1 h1 h2 h3 h4
              obtain ⟨r2, k1, k2, k3, k4⟩ := tab_get t2 h1 h2 h3 h4
              have hob : 0 ≤ c.2.1 := by rcases hcin.1 with h | h <;> simp only [Call.ob] at h <;> omega
              have hobl : c.2.1 < (S.length : Int) := by have := (List.getElem?_eq_some_iff.1 hx).1; simp only [Call.ob] at this; omega
              have d0 : decide (0 ≤ c.2.1) = true := decide_eq_true hob
              have d1 : decide (c.2.1 < (S.length : Int)) = true := decide_eq_true hobl
              have hnat : Ar.std.nat (Ar.std.zadd 0 c.2.1) = c.ob.toNat := by simp
              have hsg := stL_get hcin q.1
              have gg : gc Ar.std (cI .i64) (eInts (stL S q.1)) c.ob.toNat = some (nowOf c q.1) := gc_enc hsg
              have gl : Ar.std.lget (eInts (stL S q.1)) c.ob.toNat = some (.int .i64 (nowOf c q.1)) := by rw [std_lget, enc_get, hsg]; rfl
              have hset : ∀ v : Int, Ar.std.lset (eInts (stL S q.1)) c.ob.toNat (.int .i64 v) = eInts ((stL S q.1).set c.ob.toNat v) := fun v => enc_set _ _ v
              have hset2 := stL_set hcin q.1
              rw [e] at hset2
              have e1 := gt_eSpecsI (l := S) hob hx
              have e2 := gt_eTabI h1 g1
              have e3 := gt_encI (c := cI .i64) (l := r) h3 g2
              have e4 := gt_eTabI h1 k1
              have e5 := gt_encI (c := cI .i64) (l := r2) h3 k2
              have hap : ap Ar.std (eCalls q.2) [.agg [.int .i64 c.1, .int .i64 c.2.1, .int .i64 c.2.2.1, .int .i64 (nx x.2.2.2 (nowOf c q.1) c.op), .int .i64 (2 * (i : Int) + 1), .int .i64 (2 * (i : Int) + 2)]] = some (eCalls (q.2 ++ [mkC S c q.2.length q.1])) := by
                refine ap_enc1 ?_ (by omega)
                rw [hlen]; unfold mkC; rw [e]; rfl
              rw [Bool.not_true, cond_false, e1, bsome]
              dsimp only
              rw [d0, d1, hnat, ck_true, bsome, bsome, gg, bsome, e4, bsome, e5, bsome, bsome, bsome, bsome, e2, bsome, e3, bsome, bsome, bsome, gl, bsome]
              simp only [Call.op] at hap hset2 ⊢
              simp only [std_zadd, std_zmul, (mul2 hi8).1, (mul2 hi8).2, hap, bsome, wrap1 hi hw, hset, hset2, cond_true]
              rfl
          rw [hst2]
          cases hp : playOk S c with
          | true => exact .inl ⟨_, rfl, ⟨doS_ok (playOk_in ha hp) hst, by simp [playS, hlen]⟩, rfl⟩
          | false => exact .inr ⟨_, rfl, rfl⟩)
        (fun q hq => by simp [H33L0]) ((0, 0), []) ⟨stOk_zero ha, rfl⟩
      have hfold : ∀ (w : List Call) (q : (Int × Int) × List Call), (∃ z, w.all (playOk S) = true ∧ foldE (fun q c => bif playOk S c then .inl (playS S q c) else .inr (.inr (eInts (stL S q.1)))) (fun q => (.inl (eCalls q.2, eInts (stL S q.1)) : (List D × List D) ⊕ List D)) w q = .inl (eCalls (w.foldl (playS S) q).2, z)) ∨
          ∃ z, w.all (playOk S) = false ∧ foldE (fun q c => bif playOk S c then .inl (playS S q c) else .inr (.inr (eInts (stL S q.1)))) (fun q => (.inl (eCalls q.2, eInts (stL S q.1)) : (List D × List D) ⊕ List D)) w q = .inr z := by
        intro w
        induction w with
        | nil => intro q; exact .inl ⟨_, rfl, rfl⟩
        | cons c w ih =>
          intro q
          rw [foldE_cons]
          cases hp : playOk S c with
          | true =>
            rcases ih (playS S q c) with ⟨z, h1, h2⟩ | ⟨z, h1, h2⟩
            · exact .inl ⟨z, by simp [hp, h1], by simp only [cond_true, Sum.elim_inl, h2, List.foldl_cons]⟩
            · exact .inr ⟨z, by simp [hp, h1], by simp only [cond_true, Sum.elim_inl, h2]⟩
          | false => exact .inr ⟨_, by simp [hp], rfl⟩
      have c1 : decide ((S.length : Int) = (S.length : Int)) = true := by simp
      have c2 : decide ((0 : Int) ≤ (S.length : Int)) = true := by simp
      have c3 : decide ((S.length : Int) < 4294967296) = true := decide_eq_true (by omega)
      have e0 : (([] : List D), (0 : Int), Ar.std.rep (S.length : Int) (D.int .i64 0)) = (eCalls [], ((0 : Nat) : Int), eInts (stL S (0, 0))) := by
        rw [show (D.int .i64 0) = (cI .i64).en 0 from rfl, enc_rep]
        have : List.replicate S.length (0 : Int) = stL S (0, 0) := by
          unfold stL
          have h2 : S.length = 1 ∨ S.length = 2 := by omega
          rcases h2 with h | h <;> rw [h] <;> rfl
        simp [this]
      simp only [h8, decide_false, cond_false, cond_true, List.length_map, std_zeq, c1, ck_true, std_zle, c2, std_fits, c3, bsome, e0, hloop]
      rcases hfold w ((0, 0), []) with ⟨z, h1, h2⟩ | ⟨z, h1, h2⟩
      · rw [h2, h1]; rfl
      · rw [h2, h1]; rfl
theorem H5_ok : H5 Ar.std (eSpecs S) (eCalls w) = some true := by
  have hlen : ∀ (w : List Call) (q : (Int × Int) × List Call), (w.foldl (playS S) q).2.length = q.2.length + w.length := by
    intro w
    induction w with
    | nil => intro q; rfl
    | cons c w ih => intro q; rw [List.foldl_cons, ih]; simp [playS]; omega
  have hl2 : (playR S w).1.length < Lg := by
    unfold playR
    have : (playL S w).2.length < Lg := by unfold playL; rw [hlen]; simpa using hw
    cases areS S <;> cases decide (8 < (w.length : Int)) <;> cases w.all (playOk S) <;> first | exact this | exact (by decide : (0 : Nat) < Lg)
  have he := H34_eq (playR S w).1 (playR S w).1 hl2
  rw [decide_eq_true rfl] at he
  simp only [H5, H17_eq S hs, H18_eq, bsome, H19_eq, H32_eq S w hs hw, H33_eq S w hs hw, he, std_zeq, decide_true, cond_true, cond_some]
  cases largeS S <;> cases decide (40 < (w.length : Int)) <;> rfl
end
end Go.Am
