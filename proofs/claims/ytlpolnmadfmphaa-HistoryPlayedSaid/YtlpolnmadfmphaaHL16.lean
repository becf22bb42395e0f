/- Own text: HL16. -/
import Derived.Test.YtlpolnmadfmphaaHL12
/- The history layer: the first order comes before any other one. -/
set_option maxRecDepth 100000
set_option linter.unusedVariables false
set_option linter.unusedSimpArgs false
namespace Go.Am
open Go
/-- Where two lists differ first. -/
def cmpX : List Int → List Int → Unit ⊕ Bool
  | a :: l, b :: m => if a = b then cmpX l m else .inr (decide (a < b))
  | _, _ => .inl ()
def comesB (l m : List Int) : Bool := Sum.elim (fun _ => decide (l.length < m.length)) id (cmpX l m)
theorem cmpX_nil_left (m : List Int) : cmpX [] m = .inl () := by cases m <;> rfl
theorem cmpX_nil_right (l : List Int) : cmpX l [] = .inl () := by cases l <;> rfl
theorem H57_eq (l m : List Int) (hl : l.length < Lg) : H57 Ar.std (eInts l) (eInts m) = some (comesB l m) := by
  have e := iter_res (step := H57L0 Ar.std (eInts l) (eInts m)) (min l.length m.length) (fun i => (i : Int)) (fun i => cmpX (l.drop i) (m.drop i)) (fun i hi => by
    have h1 : i < l.length := by omega
    have h2 : i < m.length := by omega
    have g1 := List.getElem?_eq_getElem h1
    have g2 := List.getElem?_eq_getElem h2
    have hst : H57L0 Ar.std (eInts l) (eInts m) (i : Int) = some (bif decide (l[i] = m[i]) then .inl ((i + 1 : Nat) : Int) else .inr (.inr (decide (l[i] < m[i])))) := by
      simp only [H57L0, std_zlt, len_enc, ltC h1, ltC h2, cond_true, bsome, gt_enc g1, gt_enc g2, std_zeq, std_wrp, std_zadd, wrap1 h1 hl]
      cases decide (l[i] = m[i]) <;> rfl
    rw [hst, List.drop_eq_getElem_cons h1, List.drop_eq_getElem_cons h2]
    by_cases hab : l[i] = m[i]
    · left
      refine ⟨by simp [hab], ?_⟩
      simp [cmpX, hab]
    · right
      simp [cmpX, hab]) (by
    have hc : cmpX (l.drop (min l.length m.length)) (m.drop (min l.length m.length)) = .inl () := by
      rcases Nat.le_total l.length m.length with h | h
      · rw [Nat.min_eq_left h, List.drop_length]; exact cmpX_nil_left _
      · rw [Nat.min_eq_right h, List.drop_length]; exact cmpX_nil_right _
    rw [hc]
    rcases Nat.lt_or_ge l.length m.length with h | h
    · have : min l.length m.length = l.length := by omega
      rw [this]
      simp [H57L0]
    · have : min l.length m.length = m.length := by omega
      rw [this]
      simp only [H57L0, std_zlt, len_enc, cond_some, bsome]
      have h2 : (bif decide ((m.length : Int) < (l.length : Int)) then decide ((m.length : Int) < (m.length : Int)) else false) = false := by
        cases decide ((m.length : Int) < (l.length : Int)) <;> simp
      rw [h2]; rfl)
  simp only [List.drop_zero] at e
  have e' : iter (H57L0 Ar.std (eInts l) (eInts m)) 0 = some (cmpX l m) := e
  simp only [H57, e', bsome, comesB, std_zlt, len_enc]
  cases cmpX l m with
  | inl u =>
    have : decide ((l.length : Int) < (m.length : Int)) = decide (l.length < m.length) := by rw [decide_eq_decide]; omega
    simp [this]
  | inr b => rfl
section
variable {S : List Spec} {h : List Call} {must : Call → Call → Bool}
/-- No way on comes before the first one. -/
theorem way_first : ∀ (l : List Nat) (m : Nat) (s : Int × Int), isFrom S h must m s l → comesB (cN l) (cN (way S h must m s)) = false
  | [], m, s, hf => by
    have hw : way S h must m s = [] := by unfold way; rw [ords_eq, show endsM h m = true from hf]; rfl
    rw [hw]; rfl
  | j :: l, m, s, hf => by
    cases he : endsM h m with
    | true =>
      have hw : way S h must m s = [] := by unfold way; rw [ords_eq, he]; rfl
      rw [hw]
      unfold comesB
      rw [show cN ([] : List Nat) = [] from rfl, cmpX_nil_right]
      simp
    | false =>
      obtain ⟨p, hn, hf2⟩ := hf
      have hne : ords S h must p.1 p.2 ≠ [] := by
        intro e
        have := (mem_ords l p.1 p.2).2 hf2
        rw [e] at this; cases this
      have hj0 : 0 < contr S h must m s j := by
        have : contr S h must m s j = (ords S h must p.1 p.2).length := by simp [contr, hn]
        rw [this]; exact List.length_pos_iff.2 hne
      obtain ⟨c, hc, hjl, _⟩ := nextM_some hn
      -- the first one with something behind it
      have hex : ∃ i, i < h.length ∧ 0 < contr S h must m s i := ⟨j, hjl, hj0⟩
      have hmin : ∃ i, (i < h.length ∧ 0 < contr S h must m s i) ∧ ∀ k, k < i → contr S h must m s k = 0 := by
        obtain ⟨i, hi⟩ := hex
        induction i using Nat.strongRecOn with
        | _ i ih =>
          by_cases hk : ∃ k, k < i ∧ 0 < contr S h must m s k
          · obtain ⟨k, h1, h2⟩ := hk
            exact ih k h1 ⟨by omega, h2⟩
          · exact ⟨i, hi, fun k hk2 => Nat.eq_zero_of_not_pos fun h0 => hk ⟨k, hk2, h0⟩⟩
      obtain ⟨i, ⟨hil, hi0⟩, hless⟩ := hmin
      cases hni : nextM S h must m s i with
      | none => simp [contr, hni] at hi0
      | some q =>
        have hq : ords S h must q.1 q.2 ≠ [] := by
          intro e; simp [contr, hni, e] at hi0
        obtain ⟨_, hw⟩ := way_step he hil hni hless hq
        rw [hw]
        have hij : i ≤ j := by
          rcases Nat.lt_or_ge j i with h | h
          · have := hless j h; omega
          · exact h
        show comesB ((j : Int) :: cN l) ((i : Int) :: cN (way S h must q.1 q.2)) = false
        unfold comesB cmpX
        by_cases hje : j = i
        · subst hje
          rw [hn] at hni; cases hni
          rw [if_pos rfl]
          have := way_first l p.1 p.2 hf2
          unfold comesB at this
          cases hcx : cmpX (cN l) (cN (way S h must p.1 p.2)) with
          | inl u => rw [hcx] at this; simp only [Sum.elim_inl, decide_eq_false_iff_not, List.length_cons] at this ⊢; omega
          | inr b => rw [hcx] at this; exact this
        · rw [if_neg (by omega)]
          simp; omega
theorem way_mem {m : Nat} {s : Int × Int} (hne : ords S h must m s ≠ []) : way S h must m s ∈ ords S h must m s := by
  unfold way
  cases ho : ords S h must m s with
  | nil => exact absurd ho hne
  | cons x r => simp
/-- There is one way only to put calls of which any two are one before the other. -/
theorem uniq_list {R : Int → Int → Prop} : ∀ {l m : List Int}, (∀ x, x ∈ l ↔ x ∈ m) → l.Nodup → m.Nodup → l.Pairwise (fun y x => ¬ R x y) → m.Pairwise (fun y x => ¬ R x y) → (∀ x ∈ l, ∀ y ∈ l, x ≠ y → R x y ∨ R y x) → l = m
  | [], m, hm, _, _, _, _, _ => by
    cases m with
    | nil => rfl
    | cons b m => have := (hm b).2 (by simp); cases this
  | a :: l, [], hm, _, _, _, _, _ => by have := (hm a).1 (by simp); cases this
  | a :: l, b :: m, hm, hl, hmn, p1, p2, ht => by
    rw [List.pairwise_cons] at p1 p2
    rw [List.nodup_cons] at hl hmn
    have hab : a = b := by
      refine Classical.byContradiction fun hne => ?_
      have hb : b ∈ l := by
        have := (hm b).2 (by simp)
        rcases List.mem_cons.1 this with h | h
        · exact absurd h.symm hne
        · exact h
      have ha : a ∈ m := by
        have := (hm a).1 (by simp)
        rcases List.mem_cons.1 this with h | h
        · exact absurd h hne
        · exact h
      rcases ht a (by simp) b (by simp [hb]) hne with h | h
      · exact p2.1 a ha h
      · exact p1.1 b hb h
    subst hab
    congr 1
    refine uniq_list (fun x => ?_) hl.2 hmn.2 p1.2 p2.2 (fun x hx y hy hne => ht x (by simp [hx]) y (by simp [hy]) hne)
    have := hm x
    simp only [List.mem_cons] at this
    constructor
    · intro hx
      rcases this.1 (.inr hx) with h | h
      · subst h; exact absurd hx hl.1
      · exact h
    · intro hx
      rcases this.2 (.inr hx) with h | h
      · subst h; exact absurd hx hmn.1
      · exact h
theorem alone_total (hok : ∀ c ∈ h, callOk c = true) (hw : widthH h < 2) {i j : Nat} {c d : Call} (hi : h[i]? = some c) (hj : h[j]? = some d) (hne : i ≠ j) : bef c d = true ∨ bef d c = true := by
  have hcc := (callOk_iff c).1 (hok c (List.mem_of_getElem? hi))
  have hdd := (callOk_iff d).1 (hok d (List.mem_of_getElem? hj))
  refine Classical.byContradiction fun hn => ?_
  simp only [not_or, Bool.not_eq_true, bef, Bool.and_eq_false_iff, decide_eq_false_iff_not] at hn
  -- the one that begins later
  have key : ∀ m : Int, und m c = true → und m d = true → (∃ e ∈ h, e.fr = m) → False := by
    rintro m h1 h2 ⟨e, he, rfl⟩
    have h3 : many h e.fr ≤ widthH h := maxI_le.1 (Nat.le_refl (widthH h)) _ (List.mem_map.2 ⟨e, he, rfl⟩)
    have h4 : 2 ≤ many h e.fr := by
      unfold many
      rw [← List.countP_eq_length_filter]
      have hlt : ∀ {i j : Nat} {c d : Call}, h[i]? = some c → h[j]? = some d → i < j → und e.fr c = true → und e.fr d = true → 2 ≤ h.countP (und e.fr) := by
        intro i j c d hi hj hij hc hd
        have hil := (List.getElem?_eq_some_iff.1 hi).1
        have hjl := (List.getElem?_eq_some_iff.1 hj).1
        rw [← List.take_append_drop j h, List.countP_append]
        have c1 : 1 ≤ (h.take j).countP (und e.fr) := by
          rw [Nat.one_le_iff_ne_zero, Ne, List.countP_eq_zero]
          intro hall
          refine hall c ?_ hc
          exact List.mem_of_getElem? (i := i) (by rw [List.getElem?_take, if_pos hij]; exact hi)
        have c2 : 1 ≤ (h.drop j).countP (und e.fr) := by
          rw [Nat.one_le_iff_ne_zero, Ne, List.countP_eq_zero]
          intro hall
          refine hall d ?_ hd
          exact List.mem_of_getElem? (i := 0) (by rw [List.getElem?_drop]; exact hj)
        omega
      rcases Nat.lt_or_gt_of_ne hne with h | h
      · exact hlt hi hj h h1 h2
      · exact hlt hj hi h h2 h1
    omega
  by_cases hle : c.fr ≤ d.fr
  · refine key d.fr ?_ ?_ ⟨d, List.mem_of_getElem? hj, rfl⟩
    · simp only [und, Bool.and_eq_true, Bool.or_eq_true, decide_eq_true_eq]; omega
    · simp only [und, Bool.and_eq_true, Bool.or_eq_true, decide_eq_true_eq]; omega
  · refine key c.fr ?_ ?_ ⟨c, List.mem_of_getElem? hi, rfl⟩
    · simp only [und, Bool.and_eq_true, Bool.or_eq_true, decide_eq_true_eq]; omega
    · simp only [und, Bool.and_eq_true, Bool.or_eq_true, decide_eq_true_eq]; omega
theorem isOrdM_parts {l : List Int} (ho : isOrdM S h must l = true) : (∀ x ∈ l, inH h x = true) ∧ l.Nodup ∧ (∀ (i : Nat) c, h[i]? = some c → c.to ≠ 0 → (i : Int) ∈ l) ∧ l.Pairwise (fun y x => must (hc h x) (hc h y) = false) ∧ allowsL S h l = true := by
  simp only [isOrdM, isL, Bool.and_eq_true] at ho
  obtain ⟨⟨o1, o2⟩, o3, o4⟩ := ho
  obtain ⟨n1, n2⟩ := nums_iff.1 o1
  exact ⟨n1, n2, full_iff.1 o2, (keepsL_iff _ _ _).1 o3, o4⟩
theorem alone_one (hok : ∀ c ∈ h, callOk c = true) (hw : widthH h < 2) (hret : ∀ c ∈ h, c.to ≠ 0) : (ords S h bef 0 (0, 0)).length ≤ 1 := by
  refine Nat.le_of_not_lt fun hlt => ?_
  have hall : ∀ x ∈ ords S h bef 0 (0, 0), ∀ y ∈ ords S h bef 0 (0, 0), x = y := by
    intro x hx y hy
    obtain ⟨x1, x2, x3, x4, _⟩ := isOrdM_parts ((mem_ords0 hok (bef_must hok) x).1 hx)
    obtain ⟨y1, y2, y3, y4, _⟩ := isOrdM_parts ((mem_ords0 hok (bef_must hok) y).1 hy)
    have hmem : ∀ {l : List Nat}, (∀ x ∈ cN l, inH h x = true) → (∀ (i : Nat) c, h[i]? = some c → c.to ≠ 0 → (i : Int) ∈ cN l) → ∀ z : Int, z ∈ cN l ↔ inH h z = true := by
      intro l h1 h2 z
      refine ⟨h1 z, fun hz => ?_⟩
      have hg := hc_get hz
      have := h2 z.toNat _ hg (hret _ (hc_mem hz))
      have e := inH_iff.1 hz
      rw [show ((z.toNat : Nat) : Int) = z by omega] at this
      exact this
    have he : cN x = cN y := by
      refine uniq_list (R := fun a b => bef (hc h a) (hc h b) = true) (fun z => by rw [hmem x1 x3, hmem y1 y3]) x2 y2 (x4.imp fun hq => by simp [hq]) (y4.imp fun hq => by simp [hq]) (fun a ha b hb hne => ?_)
      have ga := hc_get (x1 a ha)
      have gb := hc_get (x1 b hb)
      have ia := inH_iff.1 (x1 a ha)
      have ib := inH_iff.1 (x1 b hb)
      exact alone_total hok hw ga gb (by omega)
    unfold cN at he
    have := congrArg (List.map Int.toNat) he
    simpa [List.map_map, Function.comp_def] using this
  have hnd := ords_nodup (S := S) (h := h) (must := bef) _ 0 (0, 0) (Nat.le_refl _)
  cases ho : ords S h bef 0 (0, 0) with
  | nil => rw [ho] at hlt; simp at hlt
  | cons a r =>
    cases r with
    | nil => rw [ho] at hlt; simp at hlt
    | cons b r =>
      rw [ho] at hall hnd
      have := hall a (by simp) b (by simp)
      subst this
      simp at hnd
end
theorem H16L0_eq (h : List Call) (hl : h.length ≤ 40) : iter (H16L0 Ar.std (eCalls h)) (false, 0) = some (h.any fun c => decide (c.to = 0)) := by
  have := iter_pre (step := H16L0 Ar.std (eCalls h)) h (fun pre => pre.any fun c => decide (c.to = 0)) (fun b i => (b, (i : Int))) id
    (fun i c hc hi => by
      simp only [H16L0, std_zlt, std_zeq, len_enc, ltC hi, cond_true, gt_enc hc, bsome, cond_some, std_wrp, std_zadd, wrap1 hi (show h.length < 9223372036854775808 by omega), List.any_append, List.any_cons, List.any_nil, Bool.or_false, bif_or]) (by simp [H16L0])
  exact this
theorem isOrd_M (S : List Spec) (h : List Call) (l : List Int) : isOrd S h l = isOrdM S h bef l := rfl
theorem H16_ok (S : List Spec) (h : List Call) (l : List Int) (hs : SpecsOk S) (hl : h.length < Lg) (hll : l.length < Lg) : H16 Ar.std (eSpecs S) (eCalls h) (eInts l) = some true := by
  simp only [H16, H17_eq S hs, H18_eq, H39_eq S hs hl, bsome, H19_eq, std_zlt, len_enc]
  cases hfor : areS S && forH S h with
  | false => cases largeS S <;> cases decide (40 < (h.length : Int)) <;> cases decide (60 < (l.length : Int)) <;> rfl
  | true =>
    rw [Bool.and_eq_true] at hfor
    obtain ⟨ha, hf⟩ := hfor
    have he : errH S h = 0 := by simp [errH, ha, hf]
    obtain ⟨h8, hok2⟩ := forH_in ha hf
    have hok : ∀ c ∈ h, callOk c = true := fun c hc => (hok2 c hc).1
    have hv : validH h = true := by simp only [forH, Bool.and_eq_true] at hf; exact hf.1
    have e1 : H26 Ar.std (eSpecs S) (eCalls h) = some (!(ords0 S h).isEmpty, 0) := by rw [H26_eq S h hs hl, he]; rfl
    have e2 : H28 Ar.std (eSpecs S) (eCalls h) = some (!(ordsT S h).isEmpty, 0) := by rw [H28_eq S h hs hl, he]; rfl
    have e3 : H30 Ar.std (eSpecs S) (eCalls h) = some (((ords0 S h).length : Int), 0) := by rw [H30_eq S h hs hl, he]; rfl
    have e4 : H37 Ar.std (eCalls h) = some (decide (widthH h < 2), 0) := by rw [H37_eq hl]; simp [aloR, hv]
    have e5 : H46 Ar.std (eSpecs S) (eCalls h) (eInts l) = some (isOrd S h l, 0) := by rw [H46_eq S h hs hl l hll]; simp [isOrdR, he]
    have e6 : H43 Ar.std (eSpecs S) (eCalls h) = some (eNats (orderR S h).1, (orderR S h).2) := H43_eq S h hs hl
    -- who is an order is found
    have hother : isOrd S h l = true → l = cN (l.map Int.toNat) ∧ l.map Int.toNat ∈ ords0 S h := by
      intro ho
      have hin := (isOrdM_parts (must := bef) ho).1
      have e := cN_of hin
      refine ⟨e, (mem_ords0 hok (bef_must hok) _).2 ?_⟩
      rw [← e]; exact ho
    have hn1 : (decide (widthH h < 2) && !(h.any fun c => decide (c.to = 0)) && decide (1 < ((ords0 S h).length : Int))) = false := by
      cases hw : decide (widthH h < 2) with
      | false => rfl
      | true =>
        cases hop : h.any fun c => decide (c.to = 0) with
        | true => rfl
        | false =>
          have := alone_one (S := S) hok (by simpa using hw) (fun c hc hz => by
            have := List.any_eq_false.1 hop c hc
            simp [hz] at this)
          have h1 : (ords0 S h).length ≤ 1 := this
          simp; omega
    have hn2 : (bif decide (widthH h < 2) then bif h.any (fun c => decide (c.to = 0)) then some false else some (decide (1 < ((ords0 S h).length : Int))) else some false) = some false := by
      cases hw : decide (widthH h < 2) <;> cases hop : h.any (fun c => decide (c.to = 0)) <;> simp only [hw, hop, cond_true, cond_false, Bool.true_and, Bool.not_false] at hn1 ⊢
      rw [hn1]
    have hl40 : h.length ≤ 40 := by omega
    cases ho : ords0 S h with
    | nil =>
      have hor : orderR S h = ([], 5) := by simp [orderR, he, ho]
      have hno : isOrd S h l = false := by
        cases hi : isOrd S h l with
        | false => rfl
        | true => have := (hother hi).2; rw [ho] at this; cases this
      rw [ho] at e1 e3 hn2
      rw [hor] at e6
      rw [hno] at e5
      simp only [e1, e2, e3, e4, e5, e6, bsome, H16L0_eq h hl40, hn2, std_zeq, std_zlt, std_beq]
      cases largeS S <;> cases decide (40 < (h.length : Int)) <;> cases decide (60 < (l.length : Int)) <;> rfl
    | cons x r =>
      have hor : orderR S h = (x, 0) := by simp [orderR, he, ho]
      have hxm : x ∈ ords0 S h := by rw [ho]; simp
      have hxo : isOrdM S h bef (cN x) = true := (mem_ords0 hok (bef_must hok) x).1 hxm
      obtain ⟨x1, x2, x3, x4, x5⟩ := isOrdM_parts hxo
      have hisl : isL h (cN x) = true := by simp only [isOrdM, Bool.and_eq_true] at hxo; exact hxo.1
      have hk1 : keepsL bef h (cN x) = true := (keepsL_iff _ _ _).2 x4
      have hk2 : keepsL byT h (cN x) = true := by
        rw [keepsL_iff]
        refine List.Pairwise.imp_of_mem ?_ x4
        intro a b hma hmb hq
        cases hb : byT (hc h b) (hc h a) with
        | false => rfl
        | true => rw [byT_bef hv (hc_mem (x1 b hmb)) (hc_mem (x1 a hma)) hb] at hq; cases hq
      have hT : ordsT S h ≠ [] := by
        intro e
        have : x ∈ ordsT S h := by
          refine (mem_ords0 hok (byT_must hv) x).2 ?_
          simp only [isOrdM, hisl, hk2, x5]; rfl
        rw [e] at this; cases this
      have hTe : (ordsT S h).isEmpty = false := by cases hq : ordsT S h with | nil => exact absurd hq hT | cons _ _ => rfl
      have hxl : (cN x).length < Lg := by
        have : nums h (cN x) = true := nums_iff.2 ⟨x1, x2⟩
        have := nums_len this
        exact (by omega : (cN x).length < 9223372036854775808)
      have e7 : H46 Ar.std (eSpecs S) (eCalls h) (eNats x) = some (true, 0) := by
        rw [eNats_eq, H46_eq S h hs hl (cN x) hxl]; simp [isOrdR, he, isOrd_M, hxo]
      have e8 : H51 Ar.std (eCalls h) (eNats x) = some (true, true, 0) := by
        rw [eNats_eq, H51_eq h hl (cN x) hxl]; simp [keepR, hv, hisl, hk1, hk2]
      have e9 : H53 Ar.std (eSpecs S) (eCalls h) (eNats x) = some (true, 0) := by
        rw [eNats_eq, H53_eq S h hs hl (cN x) hxl]; simp [alwR, he, hisl, x5]
      have e10 : isOrd S h l = true → H57 Ar.std (eInts l) (eNats x) = some false := by
        intro hi
        obtain ⟨q1, q2⟩ := hother hi
        rw [eNats_eq, H57_eq l (cN x) hll]
        have hw : way S h bef 0 (0, 0) = x := by unfold way; rw [show ords S h bef 0 (0, 0) = x :: r from ho]; rfl
        have := way_first _ _ _ ((mem_ords _ _ _).1 q2)
        rw [hw, ← q1] at this
        rw [this]
      rw [ho] at e1 e3 hn2
      rw [hor] at e6
      have hp : decide (0 < (((x :: r).length : Nat) : Int)) = true := decide_eq_true (by simp only [List.length_cons]; omega)
      simp only [e1, e2, e3, e4, e5, e6, bsome, H16L0_eq h hl40, hn2, std_zeq, std_zlt, std_beq, hTe, hp, e7, e8, e9, List.isEmpty_cons, Bool.not_false, decide_true, cond_true, beq_self_eq_true, Bool.not_true, cond_false]
      cases hi : isOrd S h l with
      | false => cases largeS S <;> cases decide (40 < (h.length : Int)) <;> cases decide (60 < (l.length : Int)) <;> rfl
      | true =>
        simp only [e10 hi]
        cases largeS S <;> cases decide (40 < (h.length : Int)) <;> cases decide (60 < (l.length : Int)) <;> rfl
end Go.Am

/- The history layer: calls one after the other. -/
set_option maxRecDepth 100000
set_option linter.unusedVariables false
set_option linter.unusedSimpArgs false
namespace Go.Am
open Go
theorem cCall_cells (c d : Call) : ([D.int .i64 c.1, .int .i64 c.2.1, .int .i64 c.2.2.1, .int .i64 c.2.2.2.1, .int .i64 c.2.2.2.2.1, .int .i64 c.2.2.2.2.2] = [D.int .i64 d.1, .int .i64 d.2.1, .int .i64 d.2.2.1, .int .i64 d.2.2.2.1, .int .i64 d.2.2.2.2.1, .int .i64 d.2.2.2.2.2]) ↔ c = d := by
  obtain ⟨a, b, c, e, f, g⟩ := c
  obtain ⟨a', b', c', e', f', g'⟩ := d
  simp
theorem H34_eq (l m : List Call) (hl : l.length < Lg) : H34 Ar.std (eCalls l) (eCalls m) = some (decide (l = m)) := by
  simp only [H34, std_zeq, len_enc]
  by_cases hlen : l.length = m.length
  · have e : iter (H34L0 Ar.std (eCalls l) (eCalls m)) 0 = some (bif (List.range l.length).any (fun i => decide (l[i]? ≠ m[i]?)) then .inr () else .inl ()) := by
      refine iter_rng l.length _ _ _ (fun i hi => ?_) ?_
      · have hi2 : i < m.length := by omega
        have h1 := List.getElem?_eq_getElem hi
        have h2 := List.getElem?_eq_getElem hi2
        generalize l[i] = c at h1
        generalize m[i] = d at h2
        have hd : (∀ {inst : Decidable ([D.int .i64 c.1, .int .i64 c.2.1, .int .i64 c.2.2.1, .int .i64 c.2.2.2.1, .int .i64 c.2.2.2.2.1, .int .i64 c.2.2.2.2.2] = [D.int .i64 d.1, .int .i64 d.2.1, .int .i64 d.2.2.1, .int .i64 d.2.2.2.1, .int .i64 d.2.2.2.2.1, .int .i64 d.2.2.2.2.2])}, @decide _ inst = decide (c = d)) := by
          intro inst
          rw [decide_eq_decide]; exact cCall_cells c d
        simp only [H34L0, std_zlt, len_enc, ltC hi, cond_true, gt_enc h1, gt_enc h2, bsome, std_deq, hd, std_wrp, std_zadd, wrap1 hi hl, h1, h2]
        by_cases he : c = d
        · subst he; simp
        · simp [he]
      · simp [H34L0]
    have hc : decide ((l.length : Int) = (m.length : Int)) = true := decide_eq_true (by omega)
    simp only [hc, cond_true, e, bsome]
    by_cases he : l = m
    · subst he; simp
    · have : (List.range l.length).any (fun i => decide (l[i]? ≠ m[i]?)) = true := by
        refine Classical.byContradiction fun hn => he ?_
        rw [Bool.not_eq_true, List.any_eq_false] at hn
        refine List.ext_getElem? fun i => ?_
        rcases Nat.lt_or_ge i l.length with h | h
        · have := hn i (List.mem_range.2 h); simpa using this
        · rw [List.getElem?_eq_none h, List.getElem?_eq_none (by omega)]
      rw [this]; simp [he]
  · have hc : decide ((l.length : Int) = (m.length : Int)) = false := decide_eq_false (by omega)
    have : ¬ l = m := fun e => hlen (by rw [e])
    simp [hc, this]
/-- A call that may be played. -/
def playOk (S : List Spec) (c : Call) : Bool := decide (c.sa = 0) && (decide (c.fr = 0) && (decide (c.to = 0) && (btw 0 c.ob ((S.length : Int) - 1) && (btw 0 c.op ((spOf S c).2.1 - 1) && btw 0 c.th 3))))
def mkC (S : List Spec) (c : Call) (i : Nat) (s : Int × Int) : Call := (c.th, c.ob, c.op, nx (spOf S c).2.2.2 (nowOf c s) c.op, 2 * (i : Int) + 1, 2 * (i : Int) + 2)
def playS (S : List Spec) (q : (Int × Int) × List Call) (c : Call) : (Int × Int) × List Call := (doS S c q.1, q.2 ++ [mkC S c q.2.length q.1])
def playL (S : List Spec) (w : List Call) : (Int × Int) × List Call := w.foldl (playS S) ((0, 0), [])
def playR (S : List Spec) (w : List Call) : List Call × Int := bif areS S then (bif decide (8 < (w.length : Int)) then ([], 20) else bif w.all (playOk S) then ((playL S w).2, 0) else ([], 20)) else ([], 10)
theorem playOk_in {S : List Spec} (ha : areS S = true) {c : Call} (hp : playOk S c = true) : callIn S c := by
  simp only [playOk, Bool.and_eq_true, decide_eq_true_eq, btw_true] at hp
  simp only [areS, Bool.and_eq_true, btw_true, List.all_eq_true] at ha
  have hlt : c.ob.toNat < S.length := by omega
  have hx := List.getElem?_eq_getElem hlt
  have hs : spOf S c = S[c.ob.toNat] := by simp [spOf, List.getD_eq_getElem?_getD, hx]
  refine ⟨by omega, _, hx, ha.2 _ (List.getElem_mem hlt), by omega, ?_⟩
  rw [← hs]; omega
theorem play_fold (S : List Spec) : ∀ (w : List Call) (q : (Int × Int) × List Call), foldE (fun q c => bif playOk S c then .inl (playS S q c) else .inr (.inr ())) (fun q => (.inl (eCalls q.2) : List D ⊕ Unit)) w q = bif w.all (playOk S) then .inl (eCalls (w.foldl (playS S) q).2) else .inr ()
  | [], q => rfl
  | c :: w, q => by
    rw [foldE_cons]
    cases hp : playOk S c with
    | true => simp only [cond_true, Sum.elim_inl, play_fold S w, List.all_cons, hp, Bool.true_and, List.foldl_cons]
    | false => simp only [cond_false, Sum.elim_inr, List.all_cons, hp, Bool.false_and]; rfl
theorem btw_lo {n m : Int} : (!decide (n < 0) && !decide (m ≤ n)) = btw 0 n (m - 1) := by
  rw [Bool.eq_iff_iff]; simp [btw]; omega
theorem mul2 {i : Nat} (h : i ≤ 40) : IntKind.i64.wrap (IntKind.i64.wrap (2 * (i : Int)) + 1) = 2 * (i : Int) + 1 ∧ IntKind.i64.wrap (IntKind.i64.wrap (2 * (i : Int)) + 2) = 2 * (i : Int) + 2 := by
  rw [i64w (2 * (i : Int)) (by omega) (by omega)]
  exact ⟨i64w _ (by omega) (by omega), i64w _ (by omega) (by omega)⟩
section
variable (S : List Spec) (w : List Call) (hs : SpecsOk S) (hw : w.length < Lg)
include hs hw
theorem H32_eq : H32 Ar.std (eSpecs S) (eCalls w) = some (eCalls (playR S w).1, (playR S w).2) := by
  simp only [H32, H58_eq S hs, bsome, playR, std_zlt, len_enc]
  have haS : (btw 1 (S.length : Int) 2 && S.all specOk) = areS S := rfl
  rw [haS]
  cases ha : areS S with
  | false => rfl
  | true =>
    by_cases h8 : 8 < (w.length : Int)
    · simp only [h8, decide_true, cond_true]; rfl
    · have hS : 1 ≤ S.length ∧ S.length ≤ 2 := by
        have := ha; simp only [areS, Bool.and_eq_true, btw_true] at this; omega
      have hloop := iter_list (step := H32L0 Ar.std (eSpecs S) (eCalls w)) w (fun (q : (Int × Int) × List Call) i => (q.1.1, q.1.2, eCalls q.2, (i : Int))) (fun q c => bif playOk S c then .inl (playS S q c) else .inr (.inr ())) (fun q => .inl (eCalls q.2)) (fun i q => stOk S q.1 ∧ q.2.length = i)
        (fun i c q hc hq => by
          obtain ⟨hst, hlen⟩ := hq
          have hi := (List.getElem?_eq_some_iff.1 hc).1
          have hi8 : i ≤ 40 := by omega
          have hcond : ((bif decide (c.2.2.2.1 = 0) then bif decide (c.2.2.2.2.1 = 0) then bif decide (c.2.2.2.2.2 = 0) then bif decide (c.2.1 < 0) then some true else bif decide ((S.length : Int) ≤ c.2.1) then some true else bif decide (c.2.2.1 < 0) then some true else
              (gt Ar.std cSpec (eSpecs S) c.2.1).bind fun x => bif decide (x.2.1 ≤ c.2.2.1) then some true else some (!btw 0 c.1 3)
              else some true else some true else some true) : Option Bool) = some (!playOk S c) := by
            unfold playOk
            by_cases h1 : c.2.2.2.1 = 0 <;> by_cases h2 : c.2.2.2.2.1 = 0 <;> by_cases h3 : c.2.2.2.2.2 = 0 <;> simp only [h1, h2, h3, decide_true, decide_false, cond_true, cond_false, Bool.true_and, Bool.false_and, Bool.not_false, Call.sa, Call.fr, Call.to]
            by_cases h4 : c.2.1 < 0
            · have : btw 0 c.2.1 ((S.length : Int) - 1) = false := by rw [Bool.eq_false_iff]; intro hb; rw [btw_true] at hb; omega
              simp [h4, this, Call.ob]
            by_cases h5 : (S.length : Int) ≤ c.2.1
            · have : btw 0 c.2.1 ((S.length : Int) - 1) = false := by rw [Bool.eq_false_iff]; intro hb; rw [btw_true] at hb; omega
              simp [h4, h5, this, Call.ob]
            have hb1 : btw 0 c.2.1 ((S.length : Int) - 1) = true := by rw [btw_true]; omega
            have hlt : c.2.1.toNat < S.length := by omega
            have hx := List.getElem?_eq_getElem hlt
            have hsp : spOf S c = S[c.2.1.toNat] := by simp [spOf, List.getD_eq_getElem?_getD, hx]
            have e1 := gt_eSpecsI (l := S) (i := c.2.1) (by omega) hx
            by_cases h6 : c.2.2.1 < 0
            · have : btw 0 c.2.2.1 ((spOf S c).2.1 - 1) = false := by rw [Bool.eq_false_iff]; intro hb; rw [btw_true] at hb; omega
              simp [h4, h5, h6, this, hb1, Call.ob, Call.op]
            simp only [h4, h5, h6, decide_false, cond_false, e1, bsome, hb1, Bool.true_and, Call.ob, Call.op]
            by_cases h7 : S[c.2.1.toNat].2.1 ≤ c.2.2.1
            · have : btw 0 c.2.2.1 ((spOf S c).2.1 - 1) = false := by rw [Bool.eq_false_iff]; intro hb; rw [btw_true, hsp] at hb; omega
              simp [h7, this]
            · have : btw 0 c.2.2.1 ((spOf S c).2.1 - 1) = true := by rw [btw_true, hsp]; omega
              simp [h7, this]
          have hst2 : H32L0 Ar.std (eSpecs S) (eCalls w) (q.1.1, q.1.2, eCalls q.2, (i : Int)) = some (bif playOk S c then .inl ((playS S q c).1.1, (playS S q c).1.2, eCalls (playS S q c).2, ((i + 1 : Nat) : Int)) else .inr (.inr ())) := by
            simp only [H32L0, std_zlt, std_zle, std_zeq, len_enc, List.length_map, ltC hi, cond_true, gt_enc hc, bsome, H77_eq, hcond]
            cases hp : playOk S c with
            | false => rfl
            | true =>
              have hcin := playOk_in ha hp
              simp only [playOk, Bool.and_eq_true, decide_eq_true_eq] at hp
              obtain ⟨p1, p2, p3, _⟩ := hp
              simp only [Call.sa, Call.fr, Call.to] at p1 p2 p3
              obtain ⟨x, hx, e, hsx, h1, h2, h3, h4⟩ := callIn_now hcin hst
              obtain ⟨_, _, t1, t2⟩ := (specOk_iff x).1 hsx
              obtain ⟨r, k1, k2, k3, k4⟩ := tab_get t2 h1 h2 h3 h4
              have hob : 0 ≤ c.2.1 := by rcases hcin.1 with h | h <;> simp only [Call.ob] at h <;> omega
              have e1 := gt_eSpecsI (l := S) hob hx
              have e4 := gt_eTabI h1 k1
              have e5 := gt_encI (c := cI .i64) (l := r) h3 k2
              have hsays : ((gt Ar.std cSpec (eSpecs S) c.2.1).bind fun y => bif decide (c.2.1 = 0) then (gt Ar.std (cL 1) y.2.2.2 q.1.1).bind fun a => (gt Ar.std (cI .i64) a c.2.2.1).bind fun b => some b
                  else bif decide (c.2.1 = 1) then (gt Ar.std (cL 1) y.2.2.2 q.1.2).bind fun a => (gt Ar.std (cI .i64) a c.2.2.1).bind fun b => some b else none) = some (nx (spOf S c).2.2.2 (nowOf c q.1) c.op) := by
                rw [e1, e]
                rcases hcin.1 with h | h
                · simp only [Call.ob] at h
                  simp only [nowOf, Call.ob, h, decide_true, cond_true] at e4 e5 ⊢
                  simp only [bsome, e4, e5]
                · simp only [Call.ob] at h
                  have hz : decide ((1 : Int) = 0) = false := rfl
                  simp only [nowOf, Call.ob, h, hz, decide_true, cond_true, cond_false] at e4 e5 ⊢
                  simp only [bsome, e4, e5]
              -- the call with its answer does what the call does
              have hc2 : callIn S (c.1, c.2.1, c.2.2.1, nx (spOf S c).2.2.2 (nowOf c q.1) c.op, c.2.2.2.2.1, c.2.2.2.2.2) := hcin
              have hdoes := H78a_eq hc2 hst
              have hap : ap Ar.std (eCalls q.2) [.agg [.int .i64 c.1, .int .i64 c.2.1, .int .i64 c.2.2.1, .int .i64 (nx (spOf S c).2.2.2 (nowOf c q.1) c.op), .int .i64 (2 * (i : Int) + 1), .int .i64 (2 * (i : Int) + 2)]] = some (eCalls (q.2 ++ [mkC S c q.2.length q.1])) := by
                refine ap_enc1 ?_ (by omega)
                rw [hlen]; rfl
              simp only [Bool.not_true, cond_false, hsays, bsome]
              simp only [Call.ob, Call.op] at hdoes hap ⊢
              rw [hdoes]
              simp only [bsome, std_wrp, std_zadd, std_zmul, (mul2 hi8).1, (mul2 hi8).2, hap, wrap1 hi hw, cond_true]
              rfl
          rw [hst2]
          cases hp : playOk S c with
          | true => exact .inl ⟨_, rfl, ⟨doS_ok (playOk_in ha hp) hst, by simp [playS, hlen]⟩, rfl⟩
          | false => exact .inr ⟨_, rfl, rfl⟩)
        (fun q hq => by simp [H32L0]) ((0, 0), []) ⟨stOk_zero ha, rfl⟩
      rw [play_fold] at hloop
      have hloop' : iter (H32L0 Ar.std (eSpecs S) (eCalls w)) (0, 0, [], 0) = some (bif w.all (playOk S) then .inl (eCalls (playL S w).2) else .inr ()) := hloop
      simp only [h8, decide_false, cond_false, cond_true, hloop', bsome]
      cases w.all (playOk S) <;> rfl
end
end Go.Am
namespace Go.Am
section
variable (S : List Spec) (w : List Call) (hs : SpecsOk S) (hw : w.length < Lg)
include hs hw
theorem H33_eq : H33 Ar.std (eSpecs S) (eCalls w) = some (eCalls (playR S w).1, (playR S w).2) := by
  simp only [H33, H60_eq S hs, bsome, playR, std_zlt, len_enc]
  have haS : (btw 1 (S.length : Int) 2 && S.all specOk) = areS S := rfl
  rw [haS]
  cases ha : areS S with
  | false => rfl
  | true =>
    by_cases h8 : 8 < (w.length : Int)
    · simp only [h8, decide_true, cond_true]; rfl
    · have hS : 1 ≤ S.length ∧ S.length ≤ 2 := by
        have := ha; simp only [areS, Bool.and_eq_true, btw_true] at this; omega
      have hwS : IntKind.i64.wrap ((S.length : Int) - 1) = (S.length : Int) - 1 := wrapS (by omega) (by omega)
      have hloop := iter_list (step := H33L0 Ar.std (eSpecs S) (eCalls w)) w (fun (q : (Int × Int) × List Call) i => (eCalls q.2, (i : Int), eInts (stL S q.1))) (fun q c => bif playOk S c then .inl (playS S q c) else .inr (.inr (eInts (stL S q.1)))) (fun q => .inl (eCalls q.2, eInts (stL S q.1))) (fun i q => stOk S q.1 ∧ q.2.length = i)
        (fun i c q hc hq => by
          obtain ⟨hst, hlen⟩ := hq
          have hi := (List.getElem?_eq_some_iff.1 hc).1
          have hi8 : i ≤ 40 := by omega
          -- which spec is looked at
          have hcond : ((bif btw 0 c.1 3 then bif btw 0 c.2.1 ((S.length : Int) - 1) then (gt Ar.std cSpec (eSpecs S) (Ar.std.zmax (Ar.std.zmin c.2.1 ((S.length : Int) - 1)) 0)).bind fun x =>
              bif btw 0 c.2.2.1 (IntKind.i64.wrap (x.2.1 - 1)) then bif decide (c.2.2.2.1 = 0) then bif decide (c.2.2.2.2.1 = 0) then some (!decide (c.2.2.2.2.2 = 0)) else some true else some true else some true
              else some true else some true) : Option Bool) = some (!playOk S c) := by
            unfold playOk
            cases hb0 : btw 0 c.1 3 with
            | false => simp [Call.th, hb0]
            | true =>
              cases hb1 : btw 0 c.2.1 ((S.length : Int) - 1) with
              | false => simp [Call.ob, hb1]
              | true =>
                have hb := (btw_true _ _ _).1 hb1
                have hm : Ar.std.zmax (Ar.std.zmin c.2.1 ((S.length : Int) - 1)) 0 = c.2.1 := by
                  simp only [std_zmax, std_zmin]; split <;> split <;> omega
                have hlt : c.2.1.toNat < S.length := by omega
                have hx := List.getElem?_eq_getElem hlt
                have hxm := List.getElem_mem hlt
                generalize S[c.2.1.toNat] = x at hx hxm
                have hsp : spOf S c = x := by simp [spOf, List.getD_eq_getElem?_getD, hx]
                have e1 := gt_eSpecsI (l := S) hb.1 hx
                have hx1 : 1 ≤ x.2.1 ∧ x.2.1 ≤ 4 := by
                  have := ha; simp only [areS, Bool.and_eq_true, List.all_eq_true] at this
                  exact ((specOk_iff x).1 (this.2 x hxm)).2.1
                have hwx : IntKind.i64.wrap (x.2.1 - 1) = x.2.1 - 1 := wrapS (by omega) (by omega)
                simp only [cond_true, hm, e1, bsome, hwx, Call.ob, Call.op, Call.th, Call.sa, Call.fr, Call.to, hb0, hb1, hsp, Bool.and_true, Bool.true_and]
                cases btw 0 c.2.2.1 (x.2.1 - 1) <;> by_cases h1 : c.2.2.2.1 = 0 <;> by_cases h2 : c.2.2.2.2.1 = 0 <;> by_cases h3 : c.2.2.2.2.2 = 0 <;> simp [h1, h2, h3]
          have hst2 : H33L0 Ar.std (eSpecs S) (eCalls w) (eCalls q.2, (i : Int), eInts (stL S q.1)) = some (bif playOk S c then .inl (eCalls (playS S q c).2, ((i + 1 : Nat) : Int), eInts (stL S (playS S q c).1)) else .inr (.inr (eInts (stL S q.1)))) := by
            simp only [H33L0, std_zlt, std_zle, std_zeq, len_enc, List.length_map, ltC hi, cond_true, gt_enc hc, bsome, H67_eq, std_wrp, std_zsub, hwS, hcond]
            cases hp : playOk S c with
            | false => rfl
            | true =>
              have hcin := playOk_in ha hp
              obtain ⟨x, hx, e, hsx, h1, h2, h3, h4⟩ := callIn_now hcin hst
              obtain ⟨_, _, t1, t2⟩ := (specOk_iff x).1 hsx
              obtain ⟨r, g1, g2, g3, g4⟩ := tab_get t1 h1 h2 h3 h4
              obtain ⟨r2, k1, k2, k3, k4⟩ := tab_get t2 h1 h2 h3 h4
              have hob : 0 ≤ c.2.1 := by rcases hcin.1 with h | h <;> simp only [Call.ob] at h <;> omega
              have hobl : c.2.1 < (S.length : Int) := by have := (List.getElem?_eq_some_iff.1 hx).1; simp only [Call.ob] at this; omega
              have d0 : decide (0 ≤ c.2.1) = true := decide_eq_true hob
              have d1 : decide (c.2.1 < (S.length : Int)) = true := decide_eq_true hobl
              have hnat : Ar.std.nat (Ar.std.zadd 0 c.2.1) = c.ob.toNat := by simp
              have hsg := stL_get hcin q.1
              have gg : gc Ar.std (cI .i64) (eInts (stL S q.1)) c.ob.toNat = some (nowOf c q.1) := gc_enc hsg
              have gl : Ar.std.lget (eInts (stL S q.1)) c.ob.toNat = some (.int .i64 (nowOf c q.1)) := by rw [std_lget, enc_get, hsg]; rfl
              have hset : ∀ v : Int, Ar.std.lset (eInts (stL S q.1)) c.ob.toNat (.int .i64 v) = eInts ((stL S q.1).set c.ob.toNat v) := fun v => enc_set _ _ v
              have hset2 := stL_set hcin q.1
              rw [e] at hset2
              have e1 := gt_eSpecsI (l := S) hob hx
              have e2 := gt_eTabI h1 g1
              have e3 := gt_encI (c := cI .i64) (l := r) h3 g2
              have e4 := gt_eTabI h1 k1
              have e5 := gt_encI (c := cI .i64) (l := r2) h3 k2
              have hap : ap Ar.std (eCalls q.2) [.agg [.int .i64 c.1, .int .i64 c.2.1, .int .i64 c.2.2.1, .int .i64 (nx x.2.2.2 (nowOf c q.1) c.op), .int .i64 (2 * (i : Int) + 1), .int .i64 (2 * (i : Int) + 2)]] = some (eCalls (q.2 ++ [mkC S c q.2.length q.1])) := by
                refine ap_enc1 ?_ (by omega)
                rw [hlen]; unfold mkC; rw [e]; rfl
              rw [Bool.not_true, cond_false, e1, bsome]
              dsimp only
              rw [d0, d1, hnat, ck_true, bsome, bsome, gg, bsome, e4, bsome, e5, bsome, bsome, bsome, bsome, e2, bsome, e3, bsome, bsome, bsome, gl, bsome]
              simp only [Call.op] at hap hset2 ⊢
              simp only [std_zadd, std_zmul, (mul2 hi8).1, (mul2 hi8).2, hap, bsome, wrap1 hi hw, hset, hset2, cond_true]
              rfl
          rw [hst2]
          cases hp : playOk S c with
          | true => exact .inl ⟨_, rfl, ⟨doS_ok (playOk_in ha hp) hst, by simp [playS, hlen]⟩, rfl⟩
          | false => exact .inr ⟨_, rfl, rfl⟩)
        (fun q hq => by simp [H33L0]) ((0, 0), []) ⟨stOk_zero ha, rfl⟩
      have hfold : ∀ (w : List Call) (q : (Int × Int) × List Call), (∃ z, w.all (playOk S) = true ∧ foldE (fun q c => bif playOk S c then .inl (playS S q c) else .inr (.inr (eInts (stL S q.1)))) (fun q => (.inl (eCalls q.2, eInts (stL S q.1)) : (List D × List D) ⊕ List D)) w q = .inl (eCalls (w.foldl (playS S) q).2, z)) ∨
          ∃ z, w.all (playOk S) = false ∧ foldE (fun q c => bif playOk S c then .inl (playS S q c) else .inr (.inr (eInts (stL S q.1)))) (fun q => (.inl (eCalls q.2, eInts (stL S q.1)) : (List D × List D) ⊕ List D)) w q = .inr z := by
        intro w
        induction w with
        | nil => intro q; exact .inl ⟨_, rfl, rfl⟩
        | cons c w ih =>
          intro q
          rw [foldE_cons]
          cases hp : playOk S c with
          | true =>
            rcases ih (playS S q c) with ⟨z, h1, h2⟩ | ⟨z, h1, h2⟩
            · exact .inl ⟨z, by simp [hp, h1], by simp only [cond_true, Sum.elim_inl, h2, List.foldl_cons]⟩
            · exact .inr ⟨z, by simp [hp, h1], by simp only [cond_true, Sum.elim_inl, h2]⟩
          | false => exact .inr ⟨_, by simp [hp], rfl⟩
      have c1 : decide ((S.length : Int) = (S.length : Int)) = true := by simp
      have c2 : decide ((0 : Int) ≤ (S.length : Int)) = true := by simp
      have c3 : decide ((S.length : Int) < 4294967296) = true := decide_eq_true (by omega)
      have e0 : (([] : List D), (0 : Int), Ar.std.rep (S.length : Int) (D.int .i64 0)) = (eCalls [], ((0 : Nat) : Int), eInts (stL S (0, 0))) := by
        rw [show (D.int .i64 0) = (cI .i64).en 0 from rfl, enc_rep]
        have : List.replicate S.length (0 : Int) = stL S (0, 0) := by
          unfold stL
          have h2 : S.length = 1 ∨ S.length = 2 := by omega
          rcases h2 with h | h <;> rw [h] <;> rfl
        simp [this]
      simp only [h8, decide_false, cond_false, cond_true, List.length_map, std_zeq, c1, ck_true, std_zle, c2, std_fits, c3, bsome, e0, hloop]
      rcases hfold w ((0, 0), []) with ⟨z, h1, h2⟩ | ⟨z, h1, h2⟩
      · rw [h2, h1]; rfl
      · rw [h2, h1]; rfl
theorem H5_ok : H5 Ar.std (eSpecs S) (eCalls w) = some true := by
  have hlen : ∀ (w : List Call) (q : (Int × Int) × List Call), (w.foldl (playS S) q).2.length = q.2.length + w.length := by
    intro w
    induction w with
    | nil => intro q; rfl
    | cons c w ih => intro q; rw [List.foldl_cons, ih]; simp [playS]; omega
  have hl2 : (playR S w).1.length < Lg := by
    unfold playR
    have : (playL S w).2.length < Lg := by unfold playL; rw [hlen]; simpa using hw
    cases areS S <;> cases decide (8 < (w.length : Int)) <;> cases w.all (playOk S) <;> first | exact this | exact (by decide : (0 : Nat) < Lg)
  have he := H34_eq (playR S w).1 (playR S w).1 hl2
  rw [decide_eq_true rfl] at he
  simp only [H5, H17_eq S hs, H18_eq, bsome, H19_eq, H32_eq S w hs hw, H33_eq S w hs hw, he, std_zeq, decide_true, cond_true, cond_some]
  cases largeS S <;> cases decide (40 < (w.length : Int)) <;> rfl
end
end Go.Am

/- The history layer: what is played is linearisable, alone, and in the order of the calls. -/
set_option maxRecDepth 100000
set_option linter.unusedVariables false
set_option linter.unusedSimpArgs false
namespace Go.Am
open Go
section
variable {S : List Spec}
theorem playL_snoc (w : List Call) (c : Call) : playL S (w ++ [c]) = playS S (playL S w) c := by simp [playL]
theorem playL_len (w : List Call) : (playL S w).2.length = w.length := by
  induction w using snoc_ind with
  | h0 => rfl
  | h1 w c ih => rw [playL_snoc]; simp [playS, ih]
theorem play_get (w : List Call) : ∀ (i : Nat) (c : Call), w[i]? = some c → (playL S w).2[i]? = some (mkC S c i (playL S (w.take i)).1) := by
  induction w using snoc_ind with
  | h0 => intro i c hc; simp at hc
  | h1 w d ih =>
    intro i c hc
    rw [playL_snoc]
    simp only [playS]
    by_cases hi : i < w.length
    · rw [List.getElem?_append_left (by rw [playL_len]; exact hi), List.take_append_of_le_length (by omega)]
      rw [List.getElem?_append_left hi] at hc
      exact ih i c hc
    · have hil : i = w.length := by
        have := (List.getElem?_eq_some_iff.1 hc).1
        simp at this; omega
      subst hil
      rw [List.getElem?_append_right (Nat.le_refl _)] at hc
      simp at hc
      subst hc
      rw [List.getElem?_append_right (by rw [playL_len]; exact Nat.le_refl _), playL_len]
      simp
theorem play_st (ha : areS S = true) : ∀ (w : List Call), w.all (playOk S) = true → stOk S (playL S w).1 := by
  intro w
  induction w using snoc_ind with
  | h0 => intro _; exact stOk_zero ha
  | h1 w c ih =>
    intro hw
    rw [List.all_append, Bool.and_eq_true] at hw
    rw [playL_snoc]
    exact doS_ok (playOk_in ha (by simpa using hw.2)) (ih hw.1)
section
variable {w : List Call} (ha : areS S = true) (h8 : w.length ≤ 8) (hp : w.all (playOk S) = true)
include ha h8 hp
theorem played_at {i : Nat} {d : Call} (hd : (playL S w).2[i]? = some d) : ∃ c, w[i]? = some c ∧ d = mkC S c i (playL S (w.take i)).1 ∧ callOk d = true ∧ callIn S d ∧ stOk S (playL S (w.take i)).1 ∧ d.fr = 2 * (i : Int) + 1 ∧ d.to = 2 * (i : Int) + 2 ∧ i < w.length := by
  have hi : i < w.length := by have := (List.getElem?_eq_some_iff.1 hd).1; rw [playL_len] at this; exact this
  have hc := List.getElem?_eq_getElem hi
  have hcm := List.getElem_mem hi
  generalize w[i] = c at hc hcm
  have hd2 := play_get (S := S) w i c hc
  rw [hd] at hd2
  cases hd2
  have hpc : playOk S c = true := List.all_eq_true.1 hp c hcm
  have hcin := playOk_in ha hpc
  have hst := play_st ha (w.take i) (by
    rw [List.all_eq_true] at hp ⊢
    exact fun x hx => hp x (List.mem_of_mem_take hx))
  obtain ⟨x, hx, e, hsx, h1, h2, h3, h4⟩ := callIn_now hcin hst
  obtain ⟨⟨_, _⟩, ⟨o1, o2⟩, _, t2⟩ := (specOk_iff x).1 hsx
  obtain ⟨r, k1, k2, k3, k4⟩ := tab_get t2 h1 h2 h3 h4
  simp only [playOk, Bool.and_eq_true, decide_eq_true_eq, btw_true] at hpc
  refine ⟨c, hc, rfl, ?_, hcin, hst, rfl, rfl, hi⟩
  rw [callOk_iff]
  have hob := hcin.1
  simp only [mkC, Call.th, Call.ob, Call.op, Call.sa, Call.fr, Call.to, e] at *
  omega
theorem played_pw : (playL S w).2.Pairwise fun a b => bef a b = true := by
  rw [List.pairwise_iff_getElem]
  intro i j hi hj hij
  obtain ⟨_, _, _, _, _, _, e1, e2, _⟩ := played_at ha h8 hp (List.getElem?_eq_getElem hi)
  obtain ⟨_, _, _, _, _, _, e3, e4, _⟩ := played_at ha h8 hp (List.getElem?_eq_getElem hj)
  simp only [bef, Bool.and_eq_true, decide_eq_true_eq]
  omega
theorem played_for : validH (playL S w).2 = true ∧ forH S (playL S w).2 = true := by
  have hv : validH (playL S w).2 = true := by
    rw [validH_iff]
    refine ⟨by rw [playL_len]; exact h8, fun i d hd => ?_⟩
    obtain ⟨_, _, _, q1, _, _, e1, e2, _⟩ := played_at ha h8 hp hd
    refine ⟨q1, fun x hx => ?_⟩
    obtain ⟨j, hj, rfl⟩ := List.getElem_of_mem hx
    have hj1 : j < i ∧ j < (playL S w).2.length := by simp at hj; omega
    rw [List.getElem_take]
    obtain ⟨_, _, _, _, _, _, e3, e4, _⟩ := played_at ha h8 hp (List.getElem?_eq_getElem hj1.2)
    generalize (playL S w).2[j] = x at e3 e4
    have hb : bef x d = true := by simp only [bef, Bool.and_eq_true, decide_eq_true_eq]; omega
    unfold meet
    rw [hb]
    simp only [Bool.not_true, Bool.and_false, Bool.or_false]
    rw [Bool.eq_false_iff]
    simp only [ne_eq, Bool.or_eq_true, Bool.and_eq_true, decide_eq_true_eq]
    omega
  refine ⟨hv, ?_⟩
  unfold forH
  rw [hv, Bool.true_and, List.all_eq_true]
  intro d hd
  obtain ⟨i, hi, rfl⟩ := List.getElem_of_mem hd
  obtain ⟨_, _, _, _, hcin, _⟩ := played_at ha h8 hp (List.getElem?_eq_getElem hi)
  obtain ⟨_, x, hx, _, _, hop⟩ := hcin
  simp [fitC, hx, hop]
theorem played_alone : widthH (playL S w).2 < 2 := by
  have : widthH (playL S w).2 ≤ 1 := by
    unfold widthH
    rw [maxI_le]
    intro n hn
    obtain ⟨c, _, rfl⟩ := List.mem_map.1 hn
    generalize c.fr = m
    unfold many
    have hpw : ((playL S w).2.filter (und m)).Pairwise fun a b => bef a b = true := List.Pairwise.sublist List.filter_sublist (played_pw ha h8 hp)
    cases hf : (playL S w).2.filter (und m) with
    | nil => simp
    | cons a r =>
      cases r with
      | nil => simp
      | cons b r =>
        exfalso
        rw [hf, List.pairwise_cons] at hpw
        have h1 := hpw.1 b (by simp)
        have ha1 : und m a = true := (List.mem_filter.1 (by rw [hf]; simp : a ∈ (playL S w).2.filter (und m))).2
        have hb1 : und m b = true := (List.mem_filter.1 (by rw [hf]; simp : b ∈ (playL S w).2.filter (und m))).2
        simp only [und, bef, Bool.and_eq_true, Bool.or_eq_true, decide_eq_true_eq] at *
        omega
  omega
theorem played_runs : ∀ k, k ≤ w.length → allowsL S (playL S w).2 (cN (List.range k)) = true ∧ runL S (playL S w).2 (List.range k) = (playL S (w.take k)).1 := by
  intro k
  induction k with
  | zero => intro _; exact ⟨rfl, rfl⟩
  | succ k ih =>
    intro hk
    obtain ⟨i1, i2⟩ := ih (by omega)
    have hlt : k < (playL S w).2.length := by rw [playL_len]; omega
    have hd := List.getElem?_eq_getElem hlt
    generalize (playL S w).2[k] = d at hd
    obtain ⟨c, hc, rfl, _⟩ := played_at ha h8 hp hd
    have hhc := hc_nat hd
    rw [List.range_succ, allowsL_snoc, runL_snoc, i1, i2, hhc, Bool.true_and, take_succ_get hc, playL_snoc]
    refine ⟨?_, rfl⟩
    simp [okS, mkC, spOf, nowOf]
theorem played_ords : ords0 S (playL S w).2 = [List.range w.length] := by
  have hok : ∀ c ∈ (playL S w).2, callOk c = true := by
    intro c hc
    obtain ⟨i, hi, rfl⟩ := List.getElem_of_mem hc
    obtain ⟨_, _, _, q, _⟩ := played_at ha h8 hp (List.getElem?_eq_getElem hi)
    exact q
  have hmem : List.range w.length ∈ ords0 S (playL S w).2 := by
    refine (mem_ords0 hok (bef_must hok) _).2 ?_
    simp only [isOrdM, isL, Bool.and_eq_true]
    refine ⟨⟨nums_iff.2 ⟨fun x hx => ?_, nodup_cN.2 List.nodup_range⟩, full_iff.2 fun i c hc _ => ?_⟩, (keepsL_iff _ _ _).2 ?_, (played_runs ha h8 hp _ (Nat.le_refl _)).1⟩
    · obtain ⟨j, hj, rfl⟩ := List.mem_map.1 hx
      have := List.mem_range.1 hj
      exact inH_iff.2 ⟨by omega, by rw [playL_len]; omega⟩
    · have := (List.getElem?_eq_some_iff.1 hc).1
      rw [playL_len] at this
      exact cN_mem.2 (List.mem_range.2 this)
    · unfold cN
      rw [List.pairwise_map]
      refine List.Pairwise.imp_of_mem ?_ (List.pairwise_lt_range (n := w.length))
      intro i j hi hj hij
      have hi2 := List.mem_range.1 hi
      have hj2 := List.mem_range.1 hj
      have h1 : i < (playL S w).2.length := by rw [playL_len]; exact hi2
      have h2 : j < (playL S w).2.length := by rw [playL_len]; exact hj2
      have g1 := List.getElem?_eq_getElem h1
      have g2 := List.getElem?_eq_getElem h2
      rw [hc_nat g1, hc_nat g2]
      obtain ⟨_, _, _, _, _, _, e1, e2, _⟩ := played_at ha h8 hp g1
      obtain ⟨_, _, _, _, _, _, e3, e4, _⟩ := played_at ha h8 hp g2
      simp only [bef, Bool.and_eq_false_iff, decide_eq_false_iff_not]
      omega
  have hone := alone_one (S := S) hok (played_alone ha h8 hp) (fun c hc => by
    obtain ⟨i, hi, rfl⟩ := List.getElem_of_mem hc
    obtain ⟨_, _, _, _, _, _, _, e, _⟩ := played_at ha h8 hp (List.getElem?_eq_getElem hi)
    omega)
  have hone' : (ords0 S (playL S w).2).length ≤ 1 := hone
  cases ho : ords0 S (playL S w).2 with
  | nil => rw [ho] at hmem; cases hmem
  | cons a r =>
    cases r with
    | nil => rw [ho] at hmem; rw [List.mem_singleton.1 hmem]
    | cons b r => rw [ho] at hone'; simp at hone'
end
end
theorem H15_ok (S : List Spec) (w : List Call) (hs : SpecsOk S) (hw : w.length < Lg) : H15 Ar.std (eSpecs S) (eCalls w) = some true := by
  have hfalse : ∀ e : Int, e = 10 ∨ e = 20 → playR S w = ([], e) → H15 Ar.std (eSpecs S) (eCalls w) = some true := by
    intro e he hR
    have e1 : H32 Ar.std (eSpecs S) (eCalls w) = some ([], e) := by rw [H32_eq S w hs hw, hR]; rfl
    simp only [H15, H17_eq S hs, H18_eq, bsome, H19_eq, e1, std_zeq]
    rcases he with rfl | rfl <;> cases largeS S <;> cases decide (40 < (w.length : Int)) <;> rfl
  by_cases hgood : areS S = true ∧ ¬ 8 < (w.length : Int) ∧ w.all (playOk S) = true
  · obtain ⟨ha, h8, hp⟩ := hgood
    have h8' : w.length ≤ 8 := by omega
    have hR : playR S w = ((playL S w).2, 0) := by
      unfold playR; rw [ha, hp, decide_eq_false h8]; rfl
    have e1 : H32 Ar.std (eSpecs S) (eCalls w) = some (eCalls (playL S w).2, 0) := by rw [H32_eq S w hs hw, hR]
    obtain ⟨hv, hf⟩ := played_for ha h8' hp
    have hal := played_alone ha h8' hp
    have hor := played_ords ha h8' hp
    have hlen := playL_len (S := S) w
    have hlg : (playL S w).2.length < Lg := by rw [hlen]; exact hw
    have he : errH S (playL S w).2 = 0 := by simp [errH, ha, hf]
    generalize hh : (playL S w).2 = h at *
    have e2 : H20 Ar.std (eSpecs S) (eCalls h) = some (true, 0) := by rw [H20_eq S h hs hlg, ha, hf]; rfl
    have e3 : H37 Ar.std (eCalls h) = some (true, 0) := by rw [H37_eq hlg]; simp [aloR, hv, hal]
    have e4 : H35 Ar.std (eCalls h) = some ((widthH h : Int), 0) := by rw [H35_eq hlg]; simp [widR, hv]
    have e5 : H43 Ar.std (eSpecs S) (eCalls h) = some (eNats (List.range w.length), 0) := by
      rw [H43_eq S h hs hlg]; simp [orderR, he, hor]
    have e6 : H30 Ar.std (eSpecs S) (eCalls h) = some (1, 0) := by
      rw [H30_eq S h hs hlg, he, hor]; rfl
    have d1 : decide (1 < (widthH h : Int)) = false := decide_eq_false (by omega)
    have d2 : decide ((h.length : Int) = (w.length : Int)) = true := decide_eq_true (by omega)
    have hl3 : (cN (List.range w.length)).length = w.length := by simp [cN]
    have d3 : decide (((cN (List.range w.length)).length : Int) = (h.length : Int)) = true := decide_eq_true (by omega)
    have e7 : iter (H15L0 Ar.std (eCalls w) (eCalls h) (eNats (List.range w.length))) 0 = some (.inl ()) := by
      have := iter_rng (step := H15L0 Ar.std (eCalls w) (eCalls h) (eNats (List.range w.length))) w.length (fun _ => false) (.inr ()) (.inl ()) (fun i hi => by
        have hc := List.getElem?_eq_getElem hi
        generalize w[i] = c at hc
        have hd := play_get (S := S) w i c hc
        rw [hh] at hd
        have hr : (cN (List.range w.length))[i]? = some (i : Int) := by simp [cN, hi]
        simp only [H15L0, eNats_eq, std_zlt, len_enc, hl3, ltC hi, cond_true, gt_enc hr, gt_enc hc, gt_enc hd, bsome, std_zeq, decide_true, mkC, Call.th, Call.ob, Call.op, Bool.not_true, cond_false, std_wrp, std_zadd, wrap1 hi hw]) (by simp [H15L0, eNats_eq, hl3])
      have hz : (List.range w.length).any (fun _ => false) = false := by simp
      rw [hz] at this
      exact this
    have hlen3 : Ar.std.len (eNats (List.range w.length)) = ((cN (List.range w.length)).length : Int) := len_enc
    simp only [H15, H17_eq S hs, H18_eq, bsome, H19_eq, e1, e2, e3, e4, e5, e6, e7, std_zeq, std_zlt, len_enc, hlen3, d1, d2, d3, decide_true, cond_true, cond_false, Bool.not_true, Sum.elim_inl]
    cases largeS S <;> cases decide (40 < (w.length : Int)) <;> rfl
  · have : playR S w = ([], 10) ∨ playR S w = ([], 20) := by
      unfold playR
      cases ha : areS S with
      | false => exact .inl rfl
      | true =>
        by_cases h8 : 8 < (w.length : Int)
        · rw [decide_eq_true h8]; exact .inr rfl
        · cases hp : w.all (playOk S) with
          | false => rw [decide_eq_false h8]; exact .inr rfl
          | true => exact absurd ⟨ha, h8, hp⟩ hgood
    rcases this with h | h
    · exact hfalse 10 (.inl rfl) h
    · exact hfalse 20 (.inr rfl) h
end Go.Am

/- The history layer: a history is linearisable exactly if those of its objects are. -/
set_option maxRecDepth 100000
set_option linter.unusedVariables false
set_option linter.unusedSimpArgs false
namespace Go.Am
open Go
theorem validH_pw {h : List Call} : validH h = true ↔ h.length ≤ 8 ∧ (∀ c ∈ h, callOk c = true) ∧ h.Pairwise fun d c => meet c d = false := by
  rw [validH_iff]
  constructor
  · rintro ⟨h1, h2⟩
    refine ⟨h1, fun c hc => ?_, ?_⟩
    · obtain ⟨i, hi, rfl⟩ := List.getElem_of_mem hc
      exact (h2 i _ (List.getElem?_eq_getElem hi)).1
    · rw [List.pairwise_iff_getElem]
      intro i j hi hj hij
      refine (h2 j _ (List.getElem?_eq_getElem hj)).2 _ ?_
      have hlt : i < (h.take j).length := by simp; omega
      have e : (h.take j)[i] = h[i] := List.getElem_take
      rw [← e]; exact List.getElem_mem hlt
  · rintro ⟨h1, h2, h3⟩
    refine ⟨h1, fun i c hc => ⟨h2 c (List.mem_of_getElem? hc), fun d hd => ?_⟩⟩
    obtain ⟨hi, rfl⟩ := List.getElem?_eq_some_iff.1 hc
    obtain ⟨j, hj, rfl⟩ := List.getElem_of_mem hd
    have hj1 : j < i ∧ j < h.length := by simp at hj; omega
    rw [List.getElem_take]
    exact List.pairwise_iff_getElem.1 h3 j i hj1.2 hi hj1.1
theorem validH_sub {h h' : List Call} (hv : validH h = true) (hs : h'.Sublist h) : validH h' = true := by
  obtain ⟨h1, h2, h3⟩ := validH_pw.1 hv
  exact validH_pw.2 ⟨Nat.le_trans hs.length_le h1, fun c hc => h2 c (hs.subset hc), h3.sublist hs⟩
theorem validH_nodup {h : List Call} (hv : validH h = true) : h.Nodup := by
  obtain ⟨h1, h2, h3⟩ := validH_pw.1 hv
  refine h3.imp ?_
  intro a b hm e
  subst e
  unfold meet at hm
  simp at hm
def alw (S : List Spec) : List Call → Int × Int → Bool
  | [], _ => true
  | c :: L, s => okS S c s && alw S L (doS S c s)
theorem allowsF_alw (S : List Spec) (h : List Call) : ∀ (l : List Int) (s : Int × Int), allowsF S h l s = alw S (l.map (hc h)) s
  | [], _ => rfl
  | x :: l, s => by simp only [allowsF, List.map_cons, alw, allowsF_alw S h l]
/-- The calls in an order. -/
structure LinC (S : List Spec) (h L : List Call) : Prop where
  nd : L.Nodup
  sub : ∀ c ∈ L, c ∈ h
  full : ∀ c ∈ h, c.to ≠ 0 → c ∈ L
  keep : L.Pairwise fun y x => bef x y = false
  allow : alw S L (0, 0) = true
theorem lin_iff {S : List Spec} {h : List Call} (hv : validH h = true) : ords0 S h ≠ [] ↔ ∃ L, LinC S h L := by
  obtain ⟨_, hok, _⟩ := validH_pw.1 hv
  have hnd := validH_nodup hv
  constructor
  · intro hne
    obtain ⟨l, hl⟩ : ∃ l, l ∈ ords0 S h := by
      cases ho : ords0 S h with
      | nil => exact absurd ho hne
      | cons a r => exact ⟨a, by simp⟩
    obtain ⟨x1, x2, x3, x4, x5⟩ := isOrdM_parts ((mem_ords0 hok (bef_must hok) l).1 hl)
    refine ⟨(cN l).map (hc h), ?_, ?_, ?_, ?_, ?_⟩
    · rw [List.Nodup, List.pairwise_map]
      refine List.Pairwise.imp_of_mem ?_ x2
      intro a b ha hb hne e
      have ga := hc_get (x1 a ha)
      have gb := hc_get (x1 b hb)
      have ia := inH_iff.1 (x1 a ha)
      have ib := inH_iff.1 (x1 b hb)
      rw [e] at ga
      have := (List.getElem?_eq_some_iff.1 ga)
      have hb2 := (List.getElem?_eq_some_iff.1 gb)
      have heq : a.toNat = b.toNat := by
        refine (List.getElem_inj hnd (h₀ := this.1) (h₁ := hb2.1)).1 ?_
        rw [this.2, hb2.2]
      omega
    · intro c hc'
      obtain ⟨x, hx, rfl⟩ := List.mem_map.1 hc'
      exact hc_mem (x1 x hx)
    · intro c hcm hto
      obtain ⟨i, hi, rfl⟩ := List.getElem_of_mem hcm
      have hg := List.getElem?_eq_getElem hi
      exact List.mem_map.2 ⟨(i : Int), x3 i _ hg hto, hc_nat hg⟩
    · rw [List.pairwise_map]; exact x4
    · rw [← allowsF_alw]; exact x5
  · rintro ⟨L, hL⟩ hnil
    have hidx : ∀ c ∈ L, ∃ i : Nat, h[i]? = some c := fun c hcm => by
      obtain ⟨i, hi, e⟩ := List.getElem_of_mem (hL.sub c hcm)
      exact ⟨i, by rw [List.getElem?_eq_getElem hi, e]⟩
    have hl : ∃ l : List Nat, (cN l).map (hc h) = L ∧ ∀ x ∈ cN l, inH h x = true := by
      have : ∀ L : List Call, (∀ c ∈ L, ∃ i : Nat, h[i]? = some c) → ∃ l : List Nat, (cN l).map (hc h) = L ∧ ∀ x ∈ cN l, inH h x = true := by
        intro L
        induction L with
        | nil => intro _; exact ⟨[], rfl, by simp [cN]⟩
        | cons c L ih =>
          intro hx
          obtain ⟨l, h1, h2⟩ := ih (fun d hd => hx d (by simp [hd]))
          obtain ⟨i, hi⟩ := hx c (by simp)
          refine ⟨i :: l, ?_, ?_⟩
          · show hc h (i : Int) :: (cN l).map (hc h) = c :: L
            rw [hc_nat hi, h1]
          · intro x hxm
            rcases List.mem_cons.1 (show x ∈ (i : Int) :: cN l from hxm) with rfl | hxm
            · have := (List.getElem?_eq_some_iff.1 hi).1
              exact inH_iff.2 ⟨by omega, by omega⟩
            · exact h2 x hxm
      exact this L hidx
    obtain ⟨l, h1, h2⟩ := hl
    have hmem : l ∈ ords0 S h := by
      refine (mem_ords0 hok (bef_must hok) l).2 ?_
      simp only [isOrdM, isL, Bool.and_eq_true]
      refine ⟨⟨nums_iff.2 ⟨h2, ?_⟩, full_iff.2 fun i c hi hto => ?_⟩, (keepsL_iff _ _ _).2 ?_, ?_⟩
      · have := hL.nd
        rw [← h1, List.Nodup, List.pairwise_map] at this
        exact this.imp fun hq e => hq (by rw [e])
      · have hcm := hL.full c (List.mem_of_getElem? hi) hto
        rw [← h1] at hcm
        obtain ⟨x, hx, e⟩ := List.mem_map.1 hcm
        have gx := hc_get (h2 x hx)
        have ix := inH_iff.1 (h2 x hx)
        rw [e] at gx
        have a1 := List.getElem?_eq_some_iff.1 gx
        have a2 := List.getElem?_eq_some_iff.1 hi
        have : x.toNat = i := (List.getElem_inj hnd (h₀ := a1.1) (h₁ := a2.1)).1 (by rw [a1.2, a2.2])
        have : x = (i : Int) := by omega
        rw [← this]; exact hx
      · have := hL.keep
        rw [← h1, List.pairwise_map] at this
        exact this
      · show allowsF S h (cN l) (0, 0) = true
        rw [allowsF_alw, h1]; exact hL.allow
    rw [hnil] at hmem
    cases hmem
/-! ### Two objects -/
def isO (o : Int) (c : Call) : Bool := decide (c.ob = o)
theorem alw_dep (S : List Spec) : ∀ (L : List Call) (a b b' : Int), (∀ c ∈ L, c.ob = 0) → alw S L (a, b) = alw S L (a, b')
  | [], _, _, _, _ => rfl
  | c :: L, a, b, b', h => by
    have h0 := h c (by simp)
    have e1 : okS S c (a, b) = okS S c (a, b') := by simp [okS, nowOf, h0]
    have e2 : doS S c (a, b) = ((doS S c (a, b')).1, b) := by simp [doS, nowOf, h0]
    have e3 : doS S c (a, b') = ((doS S c (a, b')).1, b') := by simp [doS, nowOf, h0]
    simp only [alw, e1]
    rw [e2, e3, alw_dep S L _ b b' (fun d hd => h d (by simp [hd]))]
theorem alw_dep1 (S : List Spec) : ∀ (L : List Call) (a a' b : Int), (∀ c ∈ L, c.ob ≠ 0) → alw S L (a, b) = alw S L (a', b)
  | [], _, _, _, _ => rfl
  | c :: L, a, a', b, h => by
    have h0 := h c (by simp)
    have e1 : okS S c (a, b) = okS S c (a', b) := by simp [okS, nowOf, h0]
    have e2 : doS S c (a, b) = (a, (doS S c (a', b)).2) := by simp [doS, nowOf, h0]
    have e3 : doS S c (a', b) = (a', (doS S c (a', b)).2) := by simp [doS, nowOf, h0]
    simp only [alw, e1]
    rw [e2, e3, alw_dep1 S L a a' _ (fun d hd => h d (by simp [hd]))]
theorem alw_split (S : List Spec) : ∀ (L : List Call) (s : Int × Int), (∀ c ∈ L, c.ob = 0 ∨ c.ob = 1) → alw S L s = (alw S (L.filter (isO 0)) s && alw S (L.filter (isO 1)) s)
  | [], _, _ => rfl
  | c :: L, s, h => by
    have ih := alw_split S L (doS S c s) (fun d hd => h d (by simp [hd]))
    obtain ⟨a, b⟩ := s
    rcases h c (by simp) with h0 | h0
    · have k1 : isO 0 c = true := by simp [isO, h0]
      have k2 : isO 1 c = false := by simp [isO, h0]
      rw [List.filter_cons, List.filter_cons, k1, k2]
      simp only [if_true, Bool.false_eq_true, if_false, alw]
      rw [ih]
      have e : doS S c (a, b) = ((doS S c (a, b)).1, b) := by simp [doS, h0]
      have e2 : alw S (L.filter (isO 1)) (doS S c (a, b)) = alw S (L.filter (isO 1)) (a, b) := by
        rw [e]; exact alw_dep1 S _ _ _ _ (fun d hd => by have := (List.mem_filter.1 hd).2; simp only [isO, decide_eq_true_eq] at this; omega)
      rw [e2, Bool.and_assoc]
    · have k1 : isO 0 c = false := by simp [isO, h0]
      have k2 : isO 1 c = true := by simp [isO, h0]
      rw [List.filter_cons, List.filter_cons, k1, k2]
      simp only [if_true, Bool.false_eq_true, if_false, alw]
      rw [ih]
      have e : doS S c (a, b) = (a, (doS S c (a, b)).2) := by simp [doS, h0]
      have e2 : alw S (L.filter (isO 0)) (doS S c (a, b)) = alw S (L.filter (isO 0)) (a, b) := by
        rw [e]; exact alw_dep S _ _ _ _ (fun d hd => by have := (List.mem_filter.1 hd).2; simpa [isO] using this)
      rw [e2]
      cases okS S c (a, b) <;> cases alw S (L.filter (isO 0)) (a, b) <;> simp
/-- Two orders of calls of two objects are laid into one. -/
theorem merge_ex : ∀ (n : Nat) (L0 L1 : List Call), L0.length + L1.length ≤ n → (∀ c ∈ L0, c.ob = 0 ∧ callOk c = true) → (∀ c ∈ L1, c.ob = 1 ∧ callOk c = true) → L0.Nodup → L1.Nodup →
    (L0.Pairwise fun y x => bef x y = false) → (L1.Pairwise fun y x => bef x y = false) →
    ∃ L : List Call, L.filter (isO 0) = L0 ∧ L.filter (isO 1) = L1 ∧ L.Nodup ∧ (L.Pairwise fun y x => bef x y = false) ∧ ∀ c, c ∈ L ↔ c ∈ L0 ∨ c ∈ L1 := by
  intro n
  induction n with
  | zero =>
    intro L0 L1 hn h0 h1 n0 n1 p0 p1
    have e0 : L0 = [] := List.length_eq_zero_iff.1 (by omega)
    have e1 : L1 = [] := List.length_eq_zero_iff.1 (by omega)
    subst e0; subst e1
    exact ⟨[], rfl, rfl, by simp, by simp, by simp⟩
  | succ n ih =>
    intro L0 L1 hn h0 h1 n0 n1 p0 p1
    have only0 : ∀ L : List Call, (∀ c ∈ L, c.ob = 0 ∧ callOk c = true) → L.filter (isO 0) = L ∧ L.filter (isO 1) = [] := fun L hL =>
      ⟨List.filter_eq_self.2 fun c hc => by simp [isO, (hL c hc).1], List.filter_eq_nil_iff.2 fun c hc => by simp [isO, (hL c hc).1]⟩
    have only1 : ∀ L : List Call, (∀ c ∈ L, c.ob = 1 ∧ callOk c = true) → L.filter (isO 1) = L ∧ L.filter (isO 0) = [] := fun L hL =>
      ⟨List.filter_eq_self.2 fun c hc => by simp [isO, (hL c hc).1], List.filter_eq_nil_iff.2 fun c hc => by simp [isO, (hL c hc).1]⟩
    cases L0 with
    | nil => exact ⟨L1, (only1 L1 h1).2, (only1 L1 h1).1, n1, p1, by simp⟩
    | cons x L0 =>
      cases L1 with
      | nil => exact ⟨x :: L0, (only0 _ h0).1, (only0 _ h0).2, n0, p0, by simp⟩
      | cons y L1 =>
        rw [List.pairwise_cons] at p0 p1
        rw [List.nodup_cons] at n0 n1
        simp only [List.length_cons] at hn
        have hx := h0 x (by simp)
        have hy := h1 y (by simp)
        have cx := (callOk_iff x).1 hx.2
        have cy := (callOk_iff y).1 hy.2
        by_cases hfirst : ∀ z ∈ y :: L1, bef z x = false
        · obtain ⟨L, f0, f1, nd, pw, mem⟩ := ih L0 (y :: L1) (by simp only [List.length_cons]; omega) (fun c hc => h0 c (by simp [hc])) h1 n0.2 (List.nodup_cons.2 n1) p0.2 (List.pairwise_cons.2 p1)
          refine ⟨x :: L, ?_, ?_, ?_, ?_, ?_⟩
          · rw [List.filter_cons, if_pos (by simp [isO, hx.1]), f0]
          · rw [List.filter_cons, if_neg (by simp [isO, hx.1]), f1]
          · rw [List.nodup_cons]
            refine ⟨fun hm => ?_, nd⟩
            rcases (mem x).1 hm with h | h
            · exact n0.1 h
            · have := (h1 x h).1; omega
          · rw [List.pairwise_cons]
            refine ⟨fun z hz => ?_, pw⟩
            rcases (mem z).1 hz with h | h
            · exact p0.1 z h
            · exact hfirst z h
          · intro c
            simp only [List.mem_cons, mem c]
            constructor
            · rintro (h | h | h)
              · exact .inl (.inl h)
              · exact .inl (.inr h)
              · exact .inr h
            · rintro ((h | h) | h)
              · exact .inl h
              · exact .inr (.inl h)
              · exact .inr (.inr h)
        · have hy' : ∃ z ∈ y :: L1, bef z x = true := by
            refine Classical.byContradiction fun hno => hfirst fun z hz => ?_
            cases hb : bef z x with
            | false => rfl
            | true => exact absurd ⟨z, hz, hb⟩ hno
          obtain ⟨z, hz, hzx⟩ := hy'
          have cz := (callOk_iff z).1 (h1 z hz).2
          have hzy : y.fr ≤ z.to := by
            rcases List.mem_cons.1 hz with rfl | hz
            · simp only [bef, Bool.and_eq_true, decide_eq_true_eq] at hzx; omega
            · have := p1.1 z hz
              simp only [bef, Bool.and_eq_true, Bool.and_eq_false_iff, decide_eq_true_eq, decide_eq_false_iff_not] at this hzx; omega
          have hsecond : ∀ u ∈ x :: L0, bef u y = false := by
            intro u hu
            cases hb : bef u y with
            | false => rfl
            | true =>
              exfalso
              have cu := (callOk_iff u).1 (h0 u hu).2
              rcases List.mem_cons.1 hu with rfl | hu
              · simp only [bef, Bool.and_eq_true, decide_eq_true_eq] at hb hzx; omega
              · have := p0.1 u hu
                simp only [bef, Bool.and_eq_true, Bool.and_eq_false_iff, decide_eq_true_eq, decide_eq_false_iff_not] at this hb hzx; omega
          obtain ⟨L, f0, f1, nd, pw, mem⟩ := ih (x :: L0) L1 (by simp only [List.length_cons]; omega) h0 (fun c hc => h1 c (by simp [hc])) (List.nodup_cons.2 n0) n1.2 (List.pairwise_cons.2 p0) p1.2
          refine ⟨y :: L, ?_, ?_, ?_, ?_, ?_⟩
          · rw [List.filter_cons, if_neg (by simp [isO, hy.1]), f0]
          · rw [List.filter_cons, if_pos (by simp [isO, hy.1]), f1]
          · rw [List.nodup_cons]
            refine ⟨fun hm => ?_, nd⟩
            rcases (mem y).1 hm with h | h
            · have := (h0 y h).1; omega
            · exact n1.1 h
          · rw [List.pairwise_cons]
            refine ⟨fun z hz => ?_, pw⟩
            rcases (mem z).1 hz with h | h
            · exact hsecond z h
            · exact p1.1 z h
          · intro c
            simp only [List.mem_cons, mem c]
            constructor
            · rintro (h | (h | h) | h)
              · exact .inr (.inl h)
              · exact .inl (.inl h)
              · exact .inl (.inr h)
              · exact .inr (.inr h)
            · rintro ((h | h) | h | h)
              · exact .inr (.inl (.inl h))
              · exact .inr (.inl (.inr h))
              · exact .inl h
              · exact .inr (.inr h)
theorem objects_iff {S : List Spec} {h : List Call} (hv : validH h = true) : ords0 S h ≠ [] ↔ ords0 S (h.filter (isO 0)) ≠ [] ∧ ords0 S (h.filter (isO 1)) ≠ [] := by
  obtain ⟨_, hok, _⟩ := validH_pw.1 hv
  have hob : ∀ c ∈ h, c.ob = 0 ∨ c.ob = 1 := fun c hc => by have := (callOk_iff c).1 (hok c hc); omega
  rw [lin_iff hv, lin_iff (validH_sub hv List.filter_sublist), lin_iff (validH_sub hv List.filter_sublist)]
  constructor
  · rintro ⟨L, hL⟩
    have hsp := alw_split S L (0, 0) (fun c hc => hob c (hL.sub c hc))
    rw [hL.allow, eq_comm, Bool.and_eq_true] at hsp
    have mk : ∀ o, alw S (L.filter (isO o)) (0, 0) = true → LinC S (h.filter (isO o)) (L.filter (isO o)) := fun o ho =>
      { nd := hL.nd.sublist List.filter_sublist
        sub := fun c hc => by have := List.mem_filter.1 hc; exact List.mem_filter.2 ⟨hL.sub c this.1, this.2⟩
        full := fun c hc hto => by have := List.mem_filter.1 hc; exact List.mem_filter.2 ⟨hL.full c this.1 hto, this.2⟩
        keep := hL.keep.sublist List.filter_sublist
        allow := ho }
    exact ⟨⟨_, mk 0 hsp.1⟩, ⟨_, mk 1 hsp.2⟩⟩
  · rintro ⟨⟨L0, h0⟩, ⟨L1, h1⟩⟩
    have o0 : ∀ c ∈ L0, c.ob = 0 ∧ callOk c = true := fun c hc => by
      have := List.mem_filter.1 (h0.sub c hc); exact ⟨by simpa [isO] using this.2, hok c this.1⟩
    have o1 : ∀ c ∈ L1, c.ob = 1 ∧ callOk c = true := fun c hc => by
      have := List.mem_filter.1 (h1.sub c hc); exact ⟨by simpa [isO] using this.2, hok c this.1⟩
    obtain ⟨L, f0, f1, nd, pw, mem⟩ := merge_ex _ L0 L1 (Nat.le_refl _) o0 o1 h0.nd h1.nd h0.keep h1.keep
    refine ⟨L, nd, fun c hc => ?_, fun c hc hto => ?_, pw, ?_⟩
    · rcases (mem c).1 hc with h | h
      · exact (List.mem_filter.1 (h0.sub c h)).1
      · exact (List.mem_filter.1 (h1.sub c h)).1
    · rcases hob c hc with h | h
      · exact (mem c).2 (.inl (h0.full c (List.mem_filter.2 ⟨hc, by simp [isO, h]⟩) hto))
      · exact (mem c).2 (.inr (h1.full c (List.mem_filter.2 ⟨hc, by simp [isO, h]⟩) hto))
    · rw [alw_split S L (0, 0) (fun c hc => by
        rcases (mem c).1 hc with h | h
        · exact .inl (o0 c h).1
        · exact .inr (o1 c h).1), f0, f1, h0.allow, h1.allow]
      rfl
theorem parts_len {h : List Call} (hob : ∀ c ∈ h, c.ob = 0 ∨ c.ob = 1) : (h.filter (isO 0)).length + (h.filter (isO 1)).length = h.length := by
  induction h with
  | nil => rfl
  | cons c h ih =>
    have := ih (fun d hd => hob d (by simp [hd]))
    rcases hob c (by simp) with h0 | h0
    · have e0 : isO 0 c = true := by simp [isO, h0]
      have e1 : isO 1 c = false := by simp [isO, h0]
      rw [List.filter_cons, List.filter_cons, e0, e1, if_pos rfl, if_neg (by decide)]; simp only [List.length_cons]; omega
    · have e0 : isO 0 c = false := by simp [isO, h0]
      have e1 : isO 1 c = true := by simp [isO, h0]
      rw [List.filter_cons, List.filter_cons, e0, e1, if_pos rfl, if_neg (by decide)]; simp only [List.length_cons]; omega
theorem ofR_eq {h : List Call} (hv : validH h = true) {o : Int} (ho : o = 0 ∨ o = 1) : ofR h o = (h.filter (isO o), 0) := by
  have : btw 0 o 1 = true := by rw [btw_true]; omega
  simp only [ofR, hv, this, cond_true]; rfl
theorem forH_sub {S : List Spec} {h h' : List Call} (hf : forH S h = true) (hs : h'.Sublist h) : forH S h' = true := by
  simp only [forH, Bool.and_eq_true, List.all_eq_true] at hf ⊢
  exact ⟨validH_sub hf.1 hs, fun c hc => hf.2 c (hs.subset hc)⟩
theorem lin_of {S : List Spec} {h : List Call} (hs : SpecsOk S) (ha : areS S = true) (hf : forH S h = true) : H26 Ar.std (eSpecs S) (eCalls h) = some (!(ords0 S h).isEmpty, 0) := by
  have he : errH S h = 0 := by simp [errH, ha, hf]
  have hl : h.length < Lg := by
    obtain ⟨h8, _⟩ := forH_in ha hf
    exact (by omega : h.length < 9223372036854775808)
  rw [H26_eq S h hs hl, he]; rfl
theorem H7_ok (S : List Spec) (h : List Call) (hs : SpecsOk S) (hl : h.length < Lg) : H7 Ar.std (eSpecs S) (eCalls h) = some true := by
  simp only [H7, H17_eq S hs, H18_eq, H39_eq S hs hl, bsome, H19_eq, std_zlt, len_enc]
  cases hfor : areS S && forH S h with
  | false => cases largeS S <;> cases decide (40 < (h.length : Int)) <;> rfl
  | true =>
    rw [Bool.and_eq_true] at hfor
    obtain ⟨ha, hf⟩ := hfor
    obtain ⟨h8, hok2⟩ := forH_in ha hf
    have hv : validH h = true := by simp only [forH, Bool.and_eq_true] at hf; exact hf.1
    have hob : ∀ c ∈ h, c.ob = 0 ∨ c.ob = 1 := fun c hc => (hok2 c hc).2.1
    have e := lin_of hs ha hf
    have e0 := lin_of hs ha (forH_sub hf (List.filter_sublist (p := isO 0)))
    have e1 := lin_of hs ha (forH_sub hf (List.filter_sublist (p := isO 1)))
    have k0 : H40 Ar.std (eCalls h) 0 = some (eCalls (h.filter (isO 0)), 0) := by rw [H40_eq hl, ofR_eq hv (.inl rfl)]
    have k1 : H40 Ar.std (eCalls h) 1 = some (eCalls (h.filter (isO 1)), 0) := by rw [H40_eq hl, ofR_eq hv (.inr rfl)]
    have hlen := parts_len hob
    have hiff := objects_iff (S := S) hv
    have hb : (!(ords0 S h).isEmpty) = (!(ords0 S (h.filter (isO 0))).isEmpty && !(ords0 S (h.filter (isO 1))).isEmpty) := by
      rw [Bool.eq_iff_iff]
      simp only [Bool.and_eq_true, Bool.not_eq_true', List.isEmpty_eq_false_iff]
      exact hiff
    have hloop : iter (H7L0 Ar.std (eSpecs S) (eCalls h)) (true, 0, 0) = some (.inl (!(ords0 S h).isEmpty, (h.length : Int))) := by
      have w0 : IntKind.i64.wrap ((0 : Int) + ((h.filter (isO 0)).length : Int)) = ((h.filter (isO 0)).length : Int) := by rw [i64w _ (by omega) (by omega)]; omega
      have w1 : IntKind.i64.wrap (((h.filter (isO 0)).length : Int) + ((h.filter (isO 1)).length : Int)) = (h.length : Int) := by rw [i64w _ (by omega) (by omega)]; omega
      have v0 : IntKind.i64.wrap ((0 : Int) + 1) = 1 := by decide
      have v1 : IntKind.i64.wrap ((1 : Int) + 1) = 2 := by decide
      have s0 : H7L0 Ar.std (eSpecs S) (eCalls h) (true, 0, 0) = some (.inl (!(ords0 S (h.filter (isO 0))).isEmpty, ((h.filter (isO 0)).length : Int), 1)) := by
        simp only [H7L0, std_zlt, k0, e0, bsome, std_zeq, decide_true, cond_true, Bool.not_true, cond_false, len_enc, std_wrp, std_zadd, w0, v0]
        rfl
      have s1 : H7L0 Ar.std (eSpecs S) (eCalls h) (!(ords0 S (h.filter (isO 0))).isEmpty, ((h.filter (isO 0)).length : Int), 1) = some (.inl (!(ords0 S h).isEmpty, (h.length : Int), 2)) := by
        simp only [H7L0, std_zlt, k1, e1, bsome, std_zeq, decide_true, cond_true, Bool.not_true, cond_false, len_enc, std_wrp, std_zadd, w1, v1, hb]
        cases (ords0 S (h.filter (isO 0))).isEmpty <;> rfl
      rw [iter_inl s0, iter_inl s1]
      exact iter_inr rfl
    simp only [e, hloop, bsome, Sum.elim_inl, std_zeq, std_beq, beq_self_eq_true, decide_true, cond_true, Bool.not_true, cond_false]
    cases largeS S <;> cases decide (40 < (h.length : Int)) <;> rfl
end Go.Am
