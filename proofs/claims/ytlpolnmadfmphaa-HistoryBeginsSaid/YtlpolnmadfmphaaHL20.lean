/- Own text: HL20. -/
import Derived.Test.YtlpolnmadfmphaaHL3
import Derived.Test.YtlpolnmadfmphaaAmBit
set_option maxRecDepth 100000
set_option linter.unusedVariables false
set_option linter.unusedSimpArgs false
namespace Go.Am
open Go
def nx (t : Tab) (now op : Int) : Int := (t.getD now.toNat []).getD op.toNat 0
def spOf (S : List Spec) (c : Call) : Spec := S.getD c.ob.toNat (0, 0, [], [])
def nowOf (c : Call) (s : Int × Int) : Int := bif decide (c.ob = 0) then s.1 else s.2
def doS (S : List Spec) (c : Call) (s : Int × Int) : Int × Int := bif decide (c.ob = 0) then (nx (spOf S c).2.2.1 (nowOf c s) c.op, s.2) else (s.1, nx (spOf S c).2.2.1 (nowOf c s) c.op)
def okS (S : List Spec) (c : Call) (s : Int × Int) : Bool := decide (c.to = 0) || decide (nx (spOf S c).2.2.2 (nowOf c s) c.op = c.sa)
def stOk (S : List Spec) (s : Int × Int) : Prop := (∀ x, S[0]? = some x → 0 ≤ s.1 ∧ s.1 < x.1) ∧ ∀ x, S[1]? = some x → 0 ≤ s.2 ∧ s.2 < x.1
def callIn (S : List Spec) (c : Call) : Prop := (c.ob = 0 ∨ c.ob = 1) ∧ ∃ x, S[c.ob.toNat]? = some x ∧ specOk x = true ∧ 0 ≤ c.op ∧ c.op < x.2.1
theorem tab_get {st ops lim : Int} {t : Tab} (h : tabOk st ops lim t = true) {now op : Int} (h1 : 0 ≤ now) (h2 : now < st) (h3 : 0 ≤ op) (h4 : op < ops) :
    ∃ r, t[now.toNat]? = some r ∧ r[op.toNat]? = some (nx t now op) ∧ 0 ≤ nx t now op ∧ nx t now op ≤ lim := by
  simp only [tabOk, Bool.and_eq_true, decide_eq_true_eq, List.all_eq_true] at h
  obtain ⟨hl, hr⟩ := h
  have hlt : now.toNat < t.length := by omega
  have hrow := hr _ (List.getElem_mem hlt)
  simp only [rowOk, Bool.and_eq_true, decide_eq_true_eq, List.all_eq_true] at hrow
  have hlt2 : op.toNat < t[now.toNat].length := by omega
  have hn := hrow.2 _ (List.getElem_mem hlt2)
  rw [btw_true] at hn
  have e : nx t now op = t[now.toNat][op.toNat] := by
    simp only [nx, List.getD_eq_getElem?_getD, List.getElem?_eq_getElem hlt, Option.getD_some, List.getElem?_eq_getElem hlt2]
  refine ⟨_, List.getElem?_eq_getElem hlt, ?_, ?_⟩
  · rw [e]; exact List.getElem?_eq_getElem hlt2
  · rw [e]; exact hn
theorem specOk_iff (x : Spec) : specOk x = true ↔ (1 ≤ x.1 ∧ x.1 ≤ 8) ∧ (1 ≤ x.2.1 ∧ x.2.1 ≤ 4) ∧ tabOk x.1 x.2.1 (x.1 - 1) x.2.2.1 = true ∧ tabOk x.1 x.2.1 5 x.2.2.2 = true := by
  simp only [specOk, Bool.and_eq_true, btw_true]
theorem callIn_now {S : List Spec} {c : Call} (hc : callIn S c) {s : Int × Int} (hs : stOk S s) : ∃ x, S[c.ob.toNat]? = some x ∧ spOf S c = x ∧ specOk x = true ∧ 0 ≤ nowOf c s ∧ nowOf c s < x.1 ∧ 0 ≤ c.op ∧ c.op < x.2.1 := by
  obtain ⟨hob, x, hx, hsx, h1, h2⟩ := hc
  refine ⟨x, hx, by simp [spOf, List.getD_eq_getElem?_getD, hx], hsx, ?_⟩
  rcases hob with h | h
  · have q := hs.1 x (by rw [h] at hx; exact hx)
    simp only [nowOf, h, decide_true, cond_true]; exact ⟨q.1, q.2, h1, h2⟩
  · have q := hs.2 x (by rw [h] at hx; exact hx)
    have hz : decide ((1 : Int) = 0) = false := rfl
    simp only [nowOf, h, hz, cond_false]; exact ⟨q.1, q.2, h1, h2⟩
theorem doS_ok {S : List Spec} {c : Call} (hc : callIn S c) {s : Int × Int} (hs : stOk S s) : stOk S (doS S c s) := by
  obtain ⟨x, hx, e, hsx, h1, h2, h3, h4⟩ := callIn_now hc hs
  obtain ⟨_, _, t1, _⟩ := (specOk_iff x).1 hsx
  obtain ⟨r, _, _, g3, g4⟩ := tab_get t1 h1 h2 h3 h4
  unfold doS
  rw [e]
  rcases hc.1 with h | h
  · simp only [h, decide_true, cond_true]
    refine ⟨fun y hy => ?_, hs.2⟩
    rw [h] at hx
    have : y = x := by have := hx.symm.trans (show S[(0 : Int).toNat]? = some y from hy); exact (Option.some.inj this).symm
    subst this; exact ⟨g3, by omega⟩
  · have hz : decide ((1 : Int) = 0) = false := rfl
    simp only [h, hz, cond_false]
    refine ⟨hs.1, fun y hy => ?_⟩
    rw [h] at hx
    have : y = x := by have := hx.symm.trans (show S[(1 : Int).toNat]? = some y from hy); exact (Option.some.inj this).symm
    subst this; exact ⟨g3, by omega⟩
theorem H78a_eq {S : List Spec} {c : Call} (hc : callIn S c) {s : Int × Int} (hs : stOk S s) : H78a Ar.std s.1 s.2 (eSpecs S) c.1 c.2.1 c.2.2.1 c.2.2.2.1 c.2.2.2.2.1 c.2.2.2.2.2 = some ((doS S c s).1, (doS S c s).2, okS S c s) := by
  obtain ⟨x, hx, e, hsx, h1, h2, h3, h4⟩ := callIn_now hc hs
  obtain ⟨_, _, t1, t2⟩ := (specOk_iff x).1 hsx
  obtain ⟨r, g1, g2, g3, g4⟩ := tab_get t1 h1 h2 h3 h4
  obtain ⟨q, k1, k2, k3, k4⟩ := tab_get t2 h1 h2 h3 h4
  have hob : 0 ≤ c.2.1 := by rcases hc.1 with h | h <;> simp only [Call.ob] at h <;> omega
  have e1 := gt_eSpecsI (l := S) hob hx
  have e2 := gt_eTabI h1 g1
  have e3 := gt_encI (c := cI .i64) (l := r) h3 g2
  have e4 := gt_eTabI h1 k1
  have e5 := gt_encI (c := cI .i64) (l := q) h3 k2
  simp only [H78a, e1, bsome, std_zeq]
  rcases hc.1 with h | h
  · simp only [Call.ob] at h
    simp only [nowOf, Call.ob, h, decide_true, cond_true] at e2 e3 e4 e5
    simp only [h, decide_true, cond_true, bsome, e2, e3, e4, e5, cond_some, doS, okS, Call.ob, e, nowOf]
    cases decide (c.2.2.2.2.2 = 0) <;> simp
  · simp only [Call.ob] at h
    have hz : decide ((1 : Int) = 0) = false := rfl
    simp only [nowOf, Call.ob, h, hz, cond_false] at e2 e3 e4 e5
    simp only [h, hz, decide_true, cond_true, cond_false, bsome, e2, e3, e4, e5, cond_some, doS, okS, Call.ob, e, nowOf]
    cases decide (c.2.2.2.2.2 = 0) <;> simp
theorem forH_in {S : List Spec} {h : List Call} (ha : areS S = true) (hf : forH S h = true) : h.length ≤ 8 ∧ ∀ c ∈ h, callOk c = true ∧ callIn S c := by
  simp only [forH, Bool.and_eq_true, List.all_eq_true] at hf
  simp only [areS, Bool.and_eq_true, btw_true, List.all_eq_true] at ha
  obtain ⟨h1, h2⟩ := validH_ok hf.1
  refine ⟨h1, fun c hc => ⟨h2 c hc, ?_⟩⟩
  have hcc := (callOk_iff c).1 (h2 c hc)
  refine ⟨by omega, ?_⟩
  have := hf.2 c hc
  unfold fitC at this
  cases hx : S[c.ob.toNat]? with
  | none => rw [hx] at this; cases this
  | some x =>
    rw [hx] at this
    exact ⟨x, rfl, ha.2 x (List.mem_of_getElem? hx), hcc.2.2.1.1, by simpa using this⟩
theorem stOk_zero {S : List Spec} (ha : areS S = true) : stOk S (0, 0) := by
  simp only [areS, Bool.and_eq_true, btw_true, List.all_eq_true] at ha
  constructor <;> intro x hx <;> have := ((specOk_iff x).1 (ha.2 x (List.mem_of_getElem? hx))).1 <;> (refine ⟨by decide, ?_⟩) <;> show (0 : Int) < x.1 <;> omega
section
variable (S : List Spec) (h : List Call) (must : Call → Call → Bool)
def endsM (m : Nat) : Bool := !(List.range h.length).any fun i => (h[i]?.map fun c => decide (0 < c.to) && !m.testBit i).getD false
def freeM (m i : Nat) (c : Call) : Bool := !m.testBit i && (List.range h.length).all fun k => m.testBit k || (h[k]?.map fun d => !must d c).getD true
def nextM (m : Nat) (s : Int × Int) (i : Nat) : Option (Nat × Int × Int) := h[i]?.bind fun c => bif freeM h must m i c && okS S c s then some (ins m i, doS S c s) else none
def dfs : Nat → Nat → Int × Int → List (List Nat)
  | 0, m, s => bif endsM h m then [[]] else []
  | f + 1, m, s => (bif endsM h m then [[]] else []) ++ (List.range h.length).flatMap fun i => ((nextM S h must m s i).map fun p => (dfs f p.1 p.2).map (i :: ·)).getD []
def room (m : Nat) : Nat := (List.range h.length).countP fun i => !m.testBit i
def ords (m : Nat) (s : Int × Int) : List (List Nat) := dfs S h must (room h m) m s
end
theorem countP_lt' {p p' : Nat → Bool} {i : Nat} {l : List Nat} (hn : l.Nodup) (hi : i ∈ l) (hp : p i = true) (hp' : p' i = false) (hne : ∀ k, k ≠ i → p' k = p k) : l.countP p' + 1 = l.countP p := by
  induction l with
  | nil => simp at hi
  | cons k r ih =>
    simp only [List.nodup_cons] at hn
    simp only [List.countP_cons]
    by_cases hk : k = i
    · subst hk
      have : r.countP p' = r.countP p := List.countP_congr fun q hq => by rw [hne q (by rintro rfl; exact hn.1 hq)]
      simp [hp, hp', this]
    · have hir : i ∈ r := by rcases List.mem_cons.1 hi with h | h; exact absurd h.symm hk; exact h
      have := ih hn.2 hir
      rw [hne k hk]; omega
theorem room_ins {h : List Call} {m i : Nat} (hi : i < h.length) (hm : m.testBit i = false) : room h (ins m i) + 1 = room h m := by
  refine countP_lt' List.nodup_range (List.mem_range.2 hi) (by simp [hm]) (by simp [ins_test]) fun k hk => ?_
  have : ¬ i = k := fun e => hk e.symm
  simp [ins_test, this]
theorem nextM_some {S : List Spec} {h : List Call} {must : Call → Call → Bool} {m : Nat} {s : Int × Int} {i : Nat} {p : Nat × Int × Int} (hp : nextM S h must m s i = some p) :
    ∃ c, h[i]? = some c ∧ i < h.length ∧ m.testBit i = false ∧ freeM h must m i c = true ∧ okS S c s = true ∧ p = (ins m i, doS S c s) := by
  unfold nextM at hp
  cases hc : h[i]? with
  | none => rw [hc] at hp; cases hp
  | some c =>
    rw [hc] at hp
    simp only [Option.bind_some] at hp
    cases hf : freeM h must m i c <;> cases ho : okS S c s <;> simp [hf, ho] at hp
    refine ⟨c, rfl, (List.getElem?_eq_some_iff.1 hc).1, ?_, hf, ho, hp.symm⟩
    simp only [freeM, Bool.and_eq_true] at hf
    simpa using hf.1
theorem ords_eq (S : List Spec) (h : List Call) (must : Call → Call → Bool) (m : Nat) (s : Int × Int) :
    ords S h must m s = (bif endsM h m then [[]] else []) ++ (List.range h.length).flatMap fun i => ((nextM S h must m s i).map fun p => (ords S h must p.1 p.2).map (i :: ·)).getD [] := by
  have hstep : ∀ i, ((nextM S h must m s i).map fun p => (ords S h must p.1 p.2).map (i :: ·)) = (nextM S h must m s i).map fun p => (dfs S h must (room h m - 1) p.1 p.2).map (i :: ·) := by
    intro i
    cases hn : nextM S h must m s i with
    | none => rfl
    | some p =>
      obtain ⟨c, hc, hi, ht, _, _, rfl⟩ := nextM_some hn
      have := room_ins hi ht
      simp only [Option.map_some, ords]
      rw [show room h (ins m i) = room h m - 1 by omega]
  unfold ords at hstep ⊢
  cases hr : room h m with
  | zero =>
    have : ∀ i ∈ List.range h.length, ((nextM S h must m s i).map fun p => (dfs S h must (room h p.1) p.1 p.2).map (i :: ·)).getD [] = [] := by
      intro i hi
      cases hn : nextM S h must m s i with
      | none => rfl
      | some p =>
        obtain ⟨c, hc, hi, ht, _, _, rfl⟩ := nextM_some hn
        have := room_ins hi ht
        omega
    rw [flatMap_cong this]
    simp [dfs]
  | succ f =>
    rw [hr] at hstep
    simp only [Nat.add_sub_cancel] at hstep
    simp only [dfs, hstep]
end Go.Am

set_option maxRecDepth 100000
set_option linter.unusedVariables false
set_option linter.unusedSimpArgs false
namespace Go.Am
open Go
theorem H124a_eq {m i : Nat} (hm : m < 256) (hi : i ≤ 8) : H124a Ar.std (m : Int) (i : Int) = some (m.testBit i) := by
  have h0 : decide ((i : Int) < 0) = false := by simp
  simp only [H124a, std_zlt, h0, nk_false, bsome, std_zeq, std_bits, std_shr, has_u8 m i hm hi]
def keyP (m : Nat) (s : Int × Int) : D := .agg [.int .u8 m, .int .i64 s.1, .int .i64 s.2]
theorem keyP_inj {m m' : Nat} {s s' : Int × Int} (h : keyP m s = keyP m' s') : m = m' ∧ s = s' := by
  simp only [keyP, D.agg.injEq, List.cons.injEq, D.int.injEq, true_and, and_true] at h
  exact ⟨by omega, Prod.ext h.2.1 h.2.2⟩
def GoodM (S : List Spec) (h : List Call) (must : Call → Call → Bool) (mp : List (D × D)) : Prop := ∀ (m : Nat) (s : Int × Int) (v : D), Am.mget mp (keyP m s) = some v → v = .int .i64 ((ords S h must m s).length : Int)
theorem GoodM.nil (S : List Spec) (h : List Call) (must : Call → Call → Bool) : GoodM S h must [] := fun m s v hv => by simp [Am.mget] at hv
theorem GoodM.put {S : List Spec} {h : List Call} {must : Call → Call → Bool} {mp : List (D × D)} (hg : GoodM S h must mp) (m : Nat) (s : Int × Int) : GoodM S h must (Am.mput mp (keyP m s) (.int .i64 ((ords S h must m s).length : Int))) := by
  intro m' s' v hv
  rw [mget_mput] at hv
  split at hv
  · rename_i e
    obtain ⟨rfl, rfl⟩ := keyP_inj e
    exact (Option.some.inj hv).symm
  · exact hg m' s' v hv
def contr (S : List Spec) (h : List Call) (must : Call → Call → Bool) (m : Nat) (s : Int × Int) (i : Nat) : Nat := ((nextM S h must m s i).map fun p => (ords S h must p.1 p.2).length).getD 0
theorem ords_len (S : List Spec) (h : List Call) (must : Call → Call → Bool) (m : Nat) (s : Int × Int) : (ords S h must m s).length = (bif endsM h m then 1 else 0) + ((List.range h.length).map (contr S h must m s)).sum := by
  rw [ords_eq, List.length_append, List.length_flatMap]
  congr 1
  · cases endsM h m <;> rfl
  · congr 1
    refine List.map_congr_left fun i _ => ?_
    unfold contr
    cases nextM S h must m s i <;> simp
theorem sum_le {f : Nat → Nat} {n : Nat} : ∀ {i : Nat}, i ≤ n → ((List.range i).map f).sum ≤ ((List.range n).map f).sum := by
  intro i hi
  obtain ⟨k, rfl⟩ : ∃ k, n = i + k := ⟨n - i, by omega⟩
  rw [List.range_add, List.map_append, List.sum_append]
  omega
theorem dfs_len (S : List Spec) (h : List Call) (must : Call → Call → Bool) (hl : h.length ≤ 8) : ∀ (f m : Nat) (s : Int × Int), (dfs S h must f m s).length ≤ 9 ^ (f + 1) := by
  intro f
  induction f with
  | zero => intro m s; simp only [dfs]; cases endsM h m <;> simp
  | succ f ih =>
    intro m s
    have hs : ∀ l : List Nat, ((l.flatMap fun i => ((nextM S h must m s i).map fun p => (dfs S h must f p.1 p.2).map (i :: ·)).getD [])).length ≤ l.length * 9 ^ (f + 1) := by
      intro l
      induction l with
      | nil => simp
      | cons i l ihl =>
        rw [List.flatMap_cons, List.length_append, List.length_cons, Nat.succ_mul]
        have : (((nextM S h must m s i).map fun p => (dfs S h must f p.1 p.2).map (i :: ·)).getD []).length ≤ 9 ^ (f + 1) := by
          cases nextM S h must m s i with
          | none => simp
          | some p => simpa using ih p.1 p.2
        omega
    have h1 := hs (List.range h.length)
    simp only [dfs, List.length_append]
    have h2 : (bif endsM h m then [[]] else [] : List (List Nat)).length ≤ 1 := by cases endsM h m <;> simp
    have h3 : (List.range h.length).length * 9 ^ (f + 1) ≤ 8 * 9 ^ (f + 1) := Nat.mul_le_mul_right _ (by simpa using hl)
    have h4 : 9 ^ (f + 1 + 1) = 9 * 9 ^ (f + 1) := by rw [Nat.pow_succ]; omega
    have h5 : 1 ≤ 9 ^ (f + 1) := Nat.one_le_pow _ _ (by decide)
    omega
theorem ords_lt (S : List Spec) (h : List Call) (must : Call → Call → Bool) (hl : h.length ≤ 8) (m : Nat) (s : Int × Int) : (ords S h must m s).length < 1000000000 := by
  have h1 := dfs_len S h must hl (room h m) m s
  have h2 : room h m ≤ 8 := by
    have := List.countP_le_length (p := fun i => !m.testBit i) (l := List.range h.length)
    unfold room; rw [List.length_range] at this; omega
  have h3 : 9 ^ (room h m + 1) ≤ 9 ^ 9 := Nat.pow_le_pow_right (by decide) (by omega)
  have h4 : (9 : Nat) ^ 9 = 387420489 := by decide
  unfold ords; omega
def way (S : List Spec) (h : List Call) (must : Call → Call → Bool) (m : Nat) (s : Int × Int) : List Nat := ((ords S h must m s).head?).getD []
section
variable {S : List Spec} {h : List Call}
theorem H115a_eq (hl : h.length ≤ 8) {m : Nat} (hm : m < 256) (s1 s2 : Int) (mp : List (D × D)) (x : List D) : H115a Ar.std (m : Int) s1 s2 mp x (eCalls h) = some (endsM h m) := by
  have e : iter (H115aL0 Ar.std (m : Int) (eCalls h)) 0 = some (bif (List.range h.length).any (fun i => (h[i]?.map fun c => decide (0 < c.to) && !m.testBit i).getD false) then .inr () else .inl ()) := by
    refine iter_rng h.length _ _ _ (fun i hi => ?_) ?_
    · have hc := List.getElem?_eq_getElem hi
      generalize h[i] = c at hc
      simp only [H115aL0, std_zlt, len_enc, ltC hi, cond_true, gt_enc hc, bsome, H124a_eq hm (by omega : i ≤ 8), std_wrp, std_zadd, wrap1 hi (by omega), hc, Option.map_some, Option.getD_some, Call.to]
      cases decide (0 < c.2.2.2.2.2) <;> cases m.testBit i <;> rfl
    · simp [H115aL0]
  simp only [H115a, e, bsome, endsM]
  cases (List.range h.length).any _ <;> rfl
theorem H125aL0_eq (hl : h.length ≤ 8) (hok : ∀ c ∈ h, callOk c = true) {m : Nat} (hm : m < 256) {i : Nat} {c : Call} (hi : i ≤ 8) :
    iter (H125aL0 Ar.std (eCalls h) (m : Int) c.1 c.2.1 c.2.2.1 c.2.2.2.1 c.2.2.2.2.1 c.2.2.2.2.2) (!m.testBit i, 0) = some (freeM h bef m i c) := by
  have := iter_fold (step := H125aL0 Ar.std (eCalls h) (m : Int) c.1 c.2.1 c.2.2.1 c.2.2.2.1 c.2.2.2.2.1 c.2.2.2.2.2) (List.range h.length) (fun (s : Bool) k => (s, (k : Int))) (fun s k => s && (m.testBit k || (h[k]?.map fun d => !bef d c).getD true)) id
    (fun k j s hj hk => by
      have hkj : k = j := by rw [List.getElem?_range (by simpa using hk)] at hj; exact Option.some.inj hj
      subst hkj
      have hk' : k < h.length := by simpa using hk
      have hd := List.getElem?_eq_getElem hk'
      have hdm := List.getElem_mem hk'
      generalize h[k] = d at hd hdm
      have hto : 0 ≤ d.to := by have := (callOk_iff d).1 (hok d hdm); omega
      simp only [H125aL0, std_zlt, len_enc, ltC hk', cond_true, gt_enc hd, bsome, H124a_eq hm (by omega : k ≤ 8), H66_eq d c hto, std_wrp, std_zadd, wrap1 hk' (by omega), hd, Option.map_some, Option.getD_some]
      cases s <;> cases m.testBit k <;> cases bef d c <;> rfl)
    (fun s => by simp [H125aL0]) (!m.testBit i)
  rw [show ((!m.testBit i, 0) : Bool × Int) = (!m.testBit i, ((0 : Nat) : Int)) from rfl, this, foldl_and]
  rfl
theorem H74_ok (hl : h.length ≤ 8) (hok : ∀ c ∈ h, callOk c = true ∧ callIn S c) : ∀ (n m : Nat) (s : Int × Int) (mp : List (D × D)), room h m < n → m < 256 → stOk S s → GoodM S h bef mp →
    ∃ mp', GoodM S h bef mp' ∧ H74R Ar.std n (m : Int) s.1 s.2 mp (eSpecs S) (eCalls h) = some (((ords S h bef m s).length : Int), mp') := by
  intro n
  induction n with
  | zero => intro m s mp hr; omega
  | succ n ih =>
    intro m s mp hr hm hs hg
    show ∃ mp', GoodM S h bef mp' ∧ H74B Ar.std (H74R Ar.std n) (m : Int) s.1 s.2 mp (eSpecs S) (eCalls h) = some (((ords S h bef m s).length : Int), mp')
    have hmd : ((ords S h bef m s).length : Int) < 1000000000 := by have := ords_lt S h bef hl m s; omega
    unfold H74B
    cases hk : Am.mget mp (keyP m s) with
    | some v =>
      have hv := hg m s v hk
      refine ⟨mp, hg, ?_⟩
      have : lk Ar.std (cI .i64) mp (.agg [.int .u8 (m : Int), .int .i64 s.1, .int .i64 s.2]) = some (some ((ords S h bef m s).length : Int)) := by
        show (Am.mget mp (keyP m s)).elim _ _ = _
        rw [hk, hv]; simp
      rw [this]
      rfl
    | none =>
      have : lk Ar.std (cI .i64) mp (.agg [.int .u8 (m : Int), .int .i64 s.1, .int .i64 s.2]) = some none := by
        show (Am.mget mp (keyP m s)).elim _ _ = _
        rw [hk]; rfl
      rw [this]
      simp only [bsome, Option.elim_none, cond_false, H115a_eq hl hm, cond_some, H116c]
      
      have hloop := iter_rel (step := H125aL1 Ar.std (eSpecs S) (eCalls h) (m : Int) s.1 s.2 (H74R Ar.std n)) h.length (fun (q : List (D × D) × Int) i => ((i : Int), q.1, q.2))
        (fun i q => GoodM S h bef q.1 ∧ q.2 = (bif endsM h m then 1 else 0 : Int) + (((List.range i).map (contr S h bef m s)).sum : Int)) (fun q => (q.1, q.2))
        (fun i q hi hR => by
          obtain ⟨q1, q2⟩ := q
          obtain ⟨hg1, rfl⟩ := hR
          have hc := List.getElem?_eq_getElem hi
          have hcm := List.getElem_mem hi
          generalize h[i] = c at hc hcm
          obtain ⟨hcok, hcin⟩ := hok c hcm
          have hsum : ((List.range (i + 1)).map (contr S h bef m s)).sum = ((List.range i).map (contr S h bef m s)).sum + contr S h bef m s i := by
            rw [List.range_succ, List.map_append, List.sum_append]; simp
          have hle := ords_len S h bef m s
          have hle2 : ((List.range (i + 1)).map (contr S h bef m s)).sum ≤ _ := sum_le (f := contr S h bef m s) hi
          have hlt2 := ords_lt S h bef hl m s
          simp only [H125aL1, std_zlt, len_enc, ltC hi, cond_true, gt_enc hc, bsome, H124a_eq hm (by omega : i ≤ 8), H125aL0_eq hl (fun c hc => (hok c hc).1) hm (by omega : i ≤ 8), std_wrp, std_zadd, wrap1 hi (by omega)]
          cases hf : freeM h bef m i c with
          | false =>
            have h0 : contr S h bef m s i = 0 := by simp [contr, nextM, hc, hf]
            refine ⟨(q1, _), ⟨hg1, by simp only [hsum, h0, Nat.add_zero]⟩, ?_⟩
            simp only [cond_false, bsome]
          | true =>
            have ht : m.testBit i = false := by simp only [freeM, Bool.and_eq_true] at hf; simpa using hf.1
            simp only [cond_true, H78a_eq hcin hs, bsome]
            cases ho : okS S c s with
            | false =>
              have h0 : contr S h bef m s i = 0 := by simp [contr, nextM, hc, ho]
              refine ⟨(q1, _), ⟨hg1, by simp only [hsum, h0, Nat.add_zero]⟩, ?_⟩
              simp only [cond_false, bsome]
            | true =>
              have hn : nextM S h bef m s i = some (ins m i, doS S c s) := by simp [nextM, hc, hf, ho]
              have h0 : contr S h bef m s i = (ords S h bef (ins m i) (doS S c s)).length := by simp [contr, hn]
              have hz : decide ((i : Int) < 0) = false := by simp
              obtain ⟨mp2, hg2, e2⟩ := ih (ins m i) (doS S c s) q1 (by have := room_ins hi ht; omega) (ins_lt (n := 8) hm (by omega)) (doS_ok hcin hs) hg1
              have hins : Ar.std.bits .or .u8 (m : Int) (Ar.std.shl .u8 1 (i : Int)) = ((ins m i : Nat) : Int) := ins_u8 m i hm (by omega)
              refine ⟨(mp2, _), ⟨hg2, rfl⟩, ?_⟩
              simp only [cond_true, hz, nk_false, bsome, hins, e2]
              have hw : IntKind.i64.wrap ((bif endsM h m then 1 else 0 : Int) + (((List.range i).map (contr S h bef m s)).sum : Int) + ((ords S h bef (ins m i) (doS S c s)).length : Int)) = (bif endsM h m then 1 else 0 : Int) + (((List.range (i + 1)).map (contr S h bef m s)).sum : Int) := by
                rw [hsum, h0]
                rw [hsum, h0] at hle2
                cases he : endsM h m <;> simp only [he, cond_true, cond_false] at hle ⊢ <;> (rw [i64w _ (by omega) (by omega)]; omega)
              rw [hw])
        (fun q hR => by simp [H125aL1]) (mp, (bif endsM h m then 1 else 0 : Int)) ⟨hg, by simp⟩
      obtain ⟨q, ⟨hg1, hq2⟩, hit⟩ := hloop
      have htot : q.2 = ((ords S h bef m s).length : Int) := by
        rw [hq2, ords_len]; cases endsM h m <;> simp
      simp only [H125a]
      have hit' : iter (H125aL1 Ar.std (eSpecs S) (eCalls h) (m : Int) s.1 s.2 (H74R Ar.std n)) (0, mp, bif endsM h m then 1 else 0) = some (q.1, q.2) := hit
      rw [hit']
      refine ⟨Am.mput q.1 (keyP m s) (.int .i64 ((ords S h bef m s).length : Int)), hg1.put m s, ?_⟩
      simp only [bsome, htot, std_mput]
      rfl
theorem H74_eq (hl : h.length ≤ 8) (hok : ∀ c ∈ h, callOk c = true ∧ callIn S c) {m : Nat} {s : Int × Int} {mp : List (D × D)} (hm : m < 256) (hs : stOk S s) (hg : GoodM S h bef mp) :
    ∃ mp', GoodM S h bef mp' ∧ H74 Ar.std (m : Int) s.1 s.2 mp (eSpecs S) (eCalls h) = some (((ords S h bef m s).length : Int), mp') := by
  have hr : room h m < fuel := by
    have := List.countP_le_length (p := fun i => !m.testBit i) (l := List.range h.length)
    rw [List.length_range] at this
    rw [fuel_eq]; unfold room; omega
  exact H74_ok hl hok fuel m s mp hr hm hs hg
end
section
variable {S : List Spec} {h : List Call}
end
end Go.Am

set_option maxRecDepth 100000
set_option linter.unusedVariables false
set_option linter.unusedSimpArgs false
namespace Go.Am
open Go
def eNats (l : List Nat) : List D := eInts (l.map (fun i : Nat => (i : Int)))
theorem ap_nat {l : List Nat} {i : Nat} (h : l.length < 4294967295) : ap Ar.std (eNats l) [.int .i64 (i : Int)] = some (eNats (l ++ [i])) := by
  unfold eNats
  have := ap_enc1 (c := cI .i64) (l := l.map (fun i : Nat => (i : Int))) (a := (i : Int)) (d := .int .i64 (i : Int)) rfl (by simpa using h)
  rw [this, List.map_append]
  rfl
theorem flatMap_first {β : Type} {f : Nat → List β} {n i : Nat} (hi : i < n) (h0 : ∀ j, j < i → f j = []) (h1 : f i ≠ []) : ((List.range n).flatMap f).head? = (f i).head? := by
  obtain ⟨k, rfl⟩ : ∃ k, n = i + (1 + k) := ⟨n - i - 1, by omega⟩
  rw [List.range_add, List.flatMap_append]
  have e1 : (List.range i).flatMap f = [] := by
    rw [List.flatMap_eq_nil_iff]; exact fun j hj => h0 j (List.mem_range.1 hj)
  rw [e1, List.nil_append, Nat.add_comm 1 k, List.range_succ_eq_map, List.map_cons, List.flatMap_cons, Nat.add_zero]
  cases hf : f i with
  | nil => exact absurd hf h1
  | cons a l => simp
def kid (S : List Spec) (h : List Call) (must : Call → Call → Bool) (m : Nat) (s : Int × Int) (i : Nat) : List (List Nat) := ((nextM S h must m s i).map fun p => (ords S h must p.1 p.2).map (i :: ·)).getD []
theorem kid_len (S : List Spec) (h : List Call) (must : Call → Call → Bool) (m : Nat) (s : Int × Int) (i : Nat) : (kid S h must m s i).length = contr S h must m s i := by
  unfold kid contr; cases nextM S h must m s i <;> simp
theorem way_step {S : List Spec} {h : List Call} {must : Call → Call → Bool} {m : Nat} {s : Int × Int} (he : endsM h m = false) {i : Nat} (hi : i < h.length) {p : Nat × Int × Int} (hn : nextM S h must m s i = some p)
    (h0 : ∀ j, j < i → contr S h must m s j = 0) (h1 : ords S h must p.1 p.2 ≠ []) : ords S h must m s ≠ [] ∧ way S h must m s = i :: way S h must p.1 p.2 := by
  have hk : kid S h must m s i = (ords S h must p.1 p.2).map (i :: ·) := by simp [kid, hn]
  have hne : kid S h must m s i ≠ [] := by rw [hk]; simpa using h1
  have hh : (ords S h must m s).head? = (kid S h must m s i).head? := by
    rw [ords_eq, he, cond_false, List.nil_append]
    exact flatMap_first (f := kid S h must m s) hi (fun j hj => by have := h0 j hj; rw [← kid_len] at this; exact List.length_eq_zero_iff.1 this) hne
  unfold way
  rw [hh, hk]
  cases ho : ords S h must p.1 p.2 with
  | nil => exact absurd ho h1
  | cons l r =>
    refine ⟨?_, by simp⟩
    intro e
    rw [e, hk, ho] at hh
    simp at hh
section
variable {S : List Spec} {h : List Call}
theorem H125bL0_eq (hl : h.length ≤ 8) (hok : ∀ c ∈ h, callOk c = true) {m : Nat} (hm : m < 256) {i : Nat} {c : Call} (hi : i ≤ 8) :
    iter (H125bL0 Ar.std (eCalls h) (m : Int) c.1 c.2.1 c.2.2.1 c.2.2.2.1 c.2.2.2.2.1 c.2.2.2.2.2) (!m.testBit i, 0) = some (freeM h bef m i c) := H125aL0_eq hl hok hm hi
theorem H125b_ok (hl : h.length ≤ 8) (hok : ∀ c ∈ h, callOk c = true ∧ callIn S c) {m : Nat} {s : Int × Int} {mp : List (D × D)} {out : List Nat} (hm : m < 256) (hs : stOk S s) (hg : GoodM S h bef mp) (ho : out.length < 100)
    (he : endsM h m = false) (hne : ords S h bef m s ≠ []) :
    ∃ i p mp', i < h.length ∧ nextM S h bef m s i = some p ∧ (∀ j, j < i → contr S h bef m s j = 0) ∧ ords S h bef p.1 p.2 ≠ [] ∧ GoodM S h bef mp' ∧
      H125b Ar.std mp (eSpecs S) (eCalls h) (m : Int) s.1 s.2 (eNats out) (m : Int) s.1 s.2 = some (.inr (mp', (p.1 : Int), p.2.1, p.2.2, eNats (out ++ [i]))) := by
  have hloop := iter_relE (step := H125bL1 Ar.std (eSpecs S) (eCalls h) (eNats out) (m : Int) s.1 s.2) h.length (fun (q : List (D × D)) i => ((i : Int), q))
    (fun i q => GoodM S h bef q ∧ ∀ j, j < i → contr S h bef m s j = 0)
    (fun i x => ∃ p mp', x = .inr (mp', (p.1 : Int), p.2.1, p.2.2, eNats (out ++ [i])) ∧ nextM S h bef m s i = some p ∧ (∀ j, j < i → contr S h bef m s j = 0) ∧ ords S h bef p.1 p.2 ≠ [] ∧ GoodM S h bef mp')
    (fun q => .inl q)
    (fun i q hi hR => by
      obtain ⟨hg1, h0⟩ := hR
      have hc := List.getElem?_eq_getElem hi
      have hcm := List.getElem_mem hi
      generalize h[i] = c at hc hcm
      obtain ⟨hcok, hcin⟩ := hok c hcm
      simp only [H125bL1, jn, std_zlt, len_enc, ltC hi, cond_true, gt_enc hc, bsome, H124a_eq hm (by omega : i ≤ 8), H125bL0_eq hl (fun c hc => (hok c hc).1) hm (by omega : i ≤ 8), std_wrp, std_zadd, wrap1 hi (by omega)]
      have goon : contr S h bef m s i = 0 → ∀ j, j < i + 1 → contr S h bef m s j = 0 := fun hz j hj => by
        rcases Nat.lt_or_eq_of_le (Nat.le_of_lt_succ hj) with h | h
        · exact h0 j h
        · rw [h]; exact hz
      cases hf : freeM h bef m i c with
      | false => exact .inl ⟨q, ⟨hg1, goon (by simp [contr, nextM, hc, hf])⟩, by simp only [cond_false]⟩
      | true =>
        have ht : m.testBit i = false := by simp only [freeM, Bool.and_eq_true] at hf; simpa using hf.1
        simp only [cond_true, H78a_eq hcin hs, bsome]
        cases hos : okS S c s with
        | false => exact .inl ⟨q, ⟨hg1, goon (by simp [contr, nextM, hc, hos])⟩, by simp only [cond_false]⟩
        | true =>
          have hn : nextM S h bef m s i = some (ins m i, doS S c s) := by simp [nextM, hc, hf, hos]
          have hc0 : contr S h bef m s i = (ords S h bef (ins m i) (doS S c s)).length := by simp [contr, hn]
          have hz : decide ((i : Int) < 0) = false := by simp
          have hins : Ar.std.bits .or .u8 (m : Int) (Ar.std.shl .u8 1 (i : Int)) = ((ins m i : Nat) : Int) := ins_u8 m i hm (by omega)
          obtain ⟨mp2, hg2, e2⟩ := H74_eq hl hok (m := ins m i) (ins_lt (n := 8) hm (by omega)) (doS_ok hcin hs) hg1
          simp only [cond_true, hz, nk_false, bsome, hins, e2]
          cases hlen : (ords S h bef (ins m i) (doS S c s)).length with
          | zero =>
            refine .inl ⟨mp2, ⟨hg2, goon (by rw [hc0, hlen])⟩, ?_⟩
            simp
          | succ k =>
            refine .inr ⟨_, ⟨(ins m i, doS S c s), mp2, rfl, hn, h0, fun e => (by simp only at e; rw [e] at hlen; cases hlen), hg2⟩, ?_⟩
            have hp : decide (0 < ((k + 1 : Nat) : Int)) = true := decide_eq_true (by omega)
            simp only [hp, cond_true, ap_nat (show out.length < 4294967295 by omega), bsome]
            rfl)
    (fun q hR => by simp [H125bL1]) mp ⟨hg, fun j hj => by omega⟩
  rcases hloop with ⟨q, ⟨_, h0⟩, _⟩ | ⟨i, x, hi, ⟨p, mp', rfl, hn, h0, h1, hg'⟩, hit⟩
  · exfalso
    apply hne
    have hlen := ords_len S h bef m s
    rw [he, cond_false, Nat.zero_add] at hlen
    have : ((List.range h.length).map (contr S h bef m s)).sum = 0 := by
      have hz : (List.range h.length).map (contr S h bef m s) = (List.range h.length).map (fun _ => 0) := List.map_congr_left fun j hj => h0 j (List.mem_range.1 hj)
      rw [hz, List.map_const']; simp
    rw [this] at hlen
    exact List.length_eq_zero_iff.1 hlen
  · refine ⟨i, p, mp', hi, hn, h0, h1, hg', ?_⟩
    have hit' : iter (H125bL1 Ar.std (eSpecs S) (eCalls h) (eNats out) (m : Int) s.1 s.2) (0, mp) = some (.inr (mp', (p.1 : Int), p.2.1, p.2.2, eNats (out ++ [i]))) := hit
    simp only [H125b, hit', bsome, Sum.elim_inr]
theorem first_ok (hl : h.length ≤ 8) (hok : ∀ c ∈ h, callOk c = true ∧ callIn S c) : ∀ (k m : Nat) (s : Int × Int) (mp : List (D × D)) (out : List Nat), room h m ≤ k → out.length + room h m < 100 → m < 256 → stOk S s → GoodM S h bef mp → ords S h bef m s ≠ [] →
    ∃ mp' m' a' b', iter (H92L0 Ar.std (eSpecs S) (eCalls h)) (mp, (m : Int), s.1, s.2, eNats out) = some (mp', m', a', b', eNats (out ++ way S h bef m s)) := by
  intro k
  induction k with
  | zero =>
    intro m s mp out hr ho hm hs hg hne
    cases he : endsM h m with
    | true =>
      have hw : way S h bef m s = [] := by unfold way; rw [ords_eq, he]; rfl
      refine ⟨mp, m, s.1, s.2, iter_inr ?_⟩
      simp only [H92L0, H115a_eq hl hm, he, bsome, cond_true, hw, List.append_nil]
    | false =>
      obtain ⟨i, p, mp', hi, hn, _⟩ := H125b_ok hl hok hm hs hg (out := out) (by omega) he hne
      obtain ⟨c, _, _, ht, _⟩ := nextM_some hn
      have := room_ins hi ht
      omega
  | succ k ih =>
    intro m s mp out hr ho hm hs hg hne
    cases he : endsM h m with
    | true =>
      have hw : way S h bef m s = [] := by unfold way; rw [ords_eq, he]; rfl
      refine ⟨mp, m, s.1, s.2, iter_inr ?_⟩
      simp only [H92L0, H115a_eq hl hm, he, bsome, cond_true, hw, List.append_nil]
    | false =>
      obtain ⟨i, p, mp', hi, hn, h0, h1, hg', e⟩ := H125b_ok hl hok hm hs hg (out := out) (by omega) he hne
      obtain ⟨c, hc, _, ht, _, _, rfl⟩ := nextM_some hn
      have hcm := List.mem_of_getElem? hc
      have hri := room_ins hi ht
      obtain ⟨_, hw⟩ := way_step he hi hn h0 h1
      obtain ⟨mp2, m2, a2, b2, e2⟩ := ih (ins m i) (doS S c s) mp' (out ++ [i]) (by omega) (by simp; omega) (ins_lt (n := 8) hm (by omega)) (doS_ok (hok c hcm).2 hs) hg' h1
      refine ⟨mp2, m2, a2, b2, ?_⟩
      rw [hw, show out ++ i :: way S h bef (ins m i) (doS S c s) = (out ++ [i]) ++ way S h bef (ins m i) (doS S c s) by simp, ← e2]
      refine iter_inl ?_
      simp only [H92L0, H115a_eq hl hm, he, bsome, cond_false, H116d, e, Sum.elim_inr]
theorem H92_eq (hl : h.length ≤ 8) (hok : ∀ c ∈ h, callOk c = true ∧ callIn S c) {m : Nat} {s : Int × Int} {mp : List (D × D)} (hm : m < 256) (hs : stOk S s) (hg : GoodM S h bef mp) :
    ∃ mp', H92 Ar.std (m : Int) s.1 s.2 mp (eSpecs S) (eCalls h) = some (eNats (way S h bef m s), !(ords S h bef m s).isEmpty, mp') := by
  obtain ⟨mp1, hg1, e1⟩ := H74_eq hl hok hm hs hg
  simp only [H92, e1, bsome, std_zeq]
  cases ho : ords S h bef m s with
  | nil => exact ⟨mp1, by simp [way, ho, eNats]⟩
  | cons l r =>
    have hr : room h m ≤ 8 := by
      have := List.countP_le_length (p := fun i => !m.testBit i) (l := List.range h.length)
      unfold room; rw [List.length_range] at this; omega
    obtain ⟨mp2, m2, a2, b2, e2⟩ := first_ok hl hok (room h m) m s mp1 [] (Nat.le_refl _) (by simp; omega) hm hs hg1 (by rw [ho]; simp)
    have hz : decide (((l :: r).length : Int) = 0) = false := by simp; omega
    have e2' : iter (H92L0 Ar.std (eSpecs S) (eCalls h)) (mp1, (m : Int), s.1, s.2, []) = some (mp2, m2, a2, b2, eNats ([] ++ way S h bef m s)) := e2
    exact ⟨mp2, by simp only [hz, cond_false, e2', bsome, List.nil_append]; rfl⟩
end
def ords0 (S : List Spec) (h : List Call) : List (List Nat) := ords S h bef 0 (0, 0)
def orderR (S : List Spec) (h : List Call) : List Nat × Int := bif decide (errH S h = 0) then (match ords0 S h with | [] => ([], 5) | l :: _ => (l, 0)) else ([], errH S h)
theorem errH_zero {S : List Spec} {h : List Call} (he : errH S h = 0) : areS S = true ∧ forH S h = true := by
  unfold errH at he
  cases ha : areS S <;> cases hf : forH S h <;> simp [ha, hf] at he ⊢
theorem H43_eq (S : List Spec) (h : List Call) (hs : SpecsOk S) (hl : h.length < Lg) : H43 Ar.std (eSpecs S) (eCalls h) = some (eNats (orderR S h).1, (orderR S h).2) := by
  simp only [H43, H71_eq S h hs hl, bsome, std_zeq, H72, orderR]
  by_cases he : errH S h = 0
  · obtain ⟨ha, hf⟩ := errH_zero he
    obtain ⟨h8, hok⟩ := forH_in ha hf
    obtain ⟨mp', e⟩ := H92_eq (S := S) (h := h) h8 hok (m := 0) (s := (0, 0)) (mp := []) (by decide) (stOk_zero ha) (GoodM.nil _ _ _)
    have e' : H92 Ar.std 0 0 0 [] (eSpecs S) (eCalls h) = _ := e
    simp only [he, decide_true, cond_true, e', bsome, ords0, way]
    cases ho : ords S h bef 0 (0, 0) with
    | nil => rfl
    | cons l r => rfl
  · simp only [he, decide_false, cond_false]; rfl
theorem H30_eq (S : List Spec) (h : List Call) (hs : SpecsOk S) (hl : h.length < Lg) : H30 Ar.std (eSpecs S) (eCalls h) = some (bif decide (errH S h = 0) then (((ords0 S h).length : Int), 0) else (0, errH S h)) := by
  simp only [H30, H71_eq S h hs hl, bsome, std_zeq, H72]
  by_cases he : errH S h = 0
  · obtain ⟨ha, hf⟩ := errH_zero he
    obtain ⟨h8, hok⟩ := forH_in ha hf
    obtain ⟨mp', _, e⟩ := H74_eq (S := S) (h := h) h8 hok (m := 0) (s := (0, 0)) (mp := []) (by decide) (stOk_zero ha) (GoodM.nil _ _ _)
    have e' : H74 Ar.std 0 0 0 [] (eSpecs S) (eCalls h) = _ := e
    simp only [he, decide_true, cond_true, e', bsome, ords0]
  · simp only [he, decide_false, cond_false]
theorem H26_eq (S : List Spec) (h : List Call) (hs : SpecsOk S) (hl : h.length < Lg) : H26 Ar.std (eSpecs S) (eCalls h) = some (decide (errH S h = 0) && !(ords0 S h).isEmpty, errH S h) := by
  simp only [H26, H30_eq S h hs hl, bsome, std_zlt]
  by_cases he : errH S h = 0
  · simp only [he, decide_true, cond_true]
    cases ords0 S h <;> simp
  · simp [he]
theorem H56_eq (l m : List Int) (hl : l.length < Lg) : H56 Ar.std (eInts l) (eInts m) = some (decide (l = m)) := by
  simp only [H56, std_zeq, len_enc]
  by_cases hlen : l.length = m.length
  · have e : iter (H56L0 Ar.std (eInts l) (eInts m)) 0 = some (bif (List.range l.length).any (fun i => decide (l[i]? ≠ m[i]?)) then .inr () else .inl ()) := by
      refine iter_rng l.length _ _ _ (fun i hi => ?_) ?_
      · have hi2 : i < m.length := by omega
        have h1 := List.getElem?_eq_getElem hi
        have h2 := List.getElem?_eq_getElem hi2
        simp only [H56L0, std_zlt, len_enc, ltC hi, cond_true, gt_enc h1, gt_enc h2, bsome, std_zeq, std_wrp, std_zadd, wrap1 hi hl, h1, h2]
        by_cases he : l[i] = m[i] <;> simp [he]
      · simp [H56L0]
    have hc : decide ((l.length : Int) = (m.length : Int)) = true := by simp; omega
    simp only [hc, cond_true, e, bsome]
    by_cases he : l = m
    · subst he; simp
    · have : (List.range l.length).any (fun i => decide (l[i]? ≠ m[i]?)) = true := by
        refine Classical.byContradiction fun hn => he ?_
        rw [Bool.not_eq_true, List.any_eq_false] at hn
        refine List.ext_getElem? fun i => ?_
        rcases Nat.lt_or_ge i l.length with h | h
        · have := hn i (List.mem_range.2 h); simpa using this
        · rw [List.getElem?_eq_none h, List.getElem?_eq_none (by omega)]
      rw [this]; simp [he]
  · have hc : decide ((l.length : Int) = (m.length : Int)) = false := by simp; omega
    have : ¬ l = m := fun e => hlen (by rw [e])
    simp [hc, this]
def qSpec : Spec := (2, 2, [[1, 0], [1, 0]], [[1, 0], [0, 1]])
def qHist : List Call := [(0, 0, 0, 1, 1, 6), (1, 0, 1, 0, 2, 5)]
theorem sane_order : orderR [qSpec] qHist = ([1, 0], 0) := by decide +kernel
theorem H19_eq : H19 Ar.std = some true := by
  have hs : SpecsOk [qSpec] := by
    refine ⟨by decide, fun s hs => ?_⟩
    obtain rfl : s = qSpec := by simpa using hs
    refine ⟨⟨by decide, fun r hr => ?_⟩, ⟨by decide, fun r hr => ?_⟩⟩ <;> simp [qSpec] at hr <;> rcases hr with rfl | rfl <;> decide
  have e := H43_eq [qSpec] qHist hs (by decide)
  rw [sane_order] at e
  have e' : H43 Ar.std [(.agg [(.int .i64 2), (.int .i64 2), (.list 1 [(.list 1 [(.int .i64 1), (.int .i64 0)]), (.list 1 [(.int .i64 1), (.int .i64 0)])]), (.list 1 [(.list 1 [(.int .i64 1), (.int .i64 0)]), (.list 1 [(.int .i64 0), (.int .i64 1)])])])] [(.agg [(.int .i64 0), (.int .i64 0), (.int .i64 0), (.int .i64 1), (.int .i64 1), (.int .i64 6)]), (.agg [(.int .i64 1), (.int .i64 0), (.int .i64 1), (.int .i64 0), (.int .i64 2), (.int .i64 5)])] = some (eInts [1, 0], 0) := e
  have e2 : H56 Ar.std (eInts [1, 0]) [(.int .i64 1), (.int .i64 0)] = some true := by
    have h := H56_eq [1, 0] [1, 0] (by decide)
    rw [decide_eq_true rfl] at h
    exact h
  simp only [H19, e', bsome, std_zeq, decide_true, cond_true, e2]
end Go.Am

set_option maxRecDepth 100000
set_option linter.unusedVariables false
set_option linter.unusedSimpArgs false
namespace Go.Am
open Go
def hc (h : List Call) (x : Int) : Call := h.getD x.toNat (0, 0, 0, 0, 0, 0)
def inH (h : List Call) (x : Int) : Bool := btw 0 x ((h.length : Int) - 1)
theorem inH_iff {h : List Call} {x : Int} : inH h x = true ↔ 0 ≤ x ∧ x < h.length := by unfold inH; rw [btw_true]; omega
theorem hc_get {h : List Call} {x : Int} (hx : inH h x = true) : h[x.toNat]? = some (hc h x) := by
  rw [inH_iff] at hx
  have : x.toNat < h.length := by omega
  simp [hc, List.getD_eq_getElem?_getD, List.getElem?_eq_getElem this]
theorem hc_nat {h : List Call} {i : Nat} {c : Call} (hi : h[i]? = some c) : hc h (i : Int) = c := by simp [hc, List.getD_eq_getElem?_getD, hi]
theorem hc_mem {h : List Call} {x : Int} (hx : inH h x = true) : hc h x ∈ h := List.mem_of_getElem? (hc_get hx)
def numsAt (h : List Call) (l : List Int) (i : Nat) : Bool := (l[i]?.map fun x => !inH h x || (l.take i).contains x).getD false
def nums (h : List Call) (l : List Int) : Bool := !(List.range l.length).any (numsAt h l)
def full (h : List Call) (l : List Int) : Bool := !(List.range h.length).any fun i => (h[i]?.map fun c => decide (c.to ≠ 0) && !l.contains (i : Int)).getD false
def isL (h : List Call) (l : List Int) : Bool := nums h l && full h l
theorem nums_iff {h : List Call} {l : List Int} : nums h l = true ↔ (∀ x ∈ l, inH h x = true) ∧ l.Nodup := by
  simp only [nums, Bool.not_eq_true', List.any_eq_false, List.mem_range]
  constructor
  · intro hn
    have hx : ∀ i (hi : i < l.length), inH h l[i] = true ∧ l[i] ∉ l.take i := by
      intro i hi
      have := hn i hi
      simp only [numsAt, List.getElem?_eq_getElem hi, Option.map_some, Option.getD_some, Bool.or_eq_true, not_or, Bool.not_eq_true', Bool.not_eq_false, List.contains_iff_mem] at this
      exact this
    refine ⟨fun x hxm => ?_, ?_⟩
    · obtain ⟨i, hi, rfl⟩ := List.getElem_of_mem hxm
      exact (hx i hi).1
    · rw [List.Nodup, List.pairwise_iff_getElem]
      intro i j hi hj hij e
      refine (hx j hj).2 ?_
      rw [← e]
      have hlt : i < (l.take j).length := by simp; omega
      have : (l.take j)[i] = l[i] := List.getElem_take
      rw [← this]; exact List.getElem_mem hlt
  · rintro ⟨h1, h2⟩ i hi
    simp only [numsAt, List.getElem?_eq_getElem hi, Option.map_some, Option.getD_some, Bool.or_eq_true, not_or, Bool.not_eq_true', Bool.not_eq_false, List.contains_iff_mem]
    refine ⟨h1 _ (List.getElem_mem hi), fun hm => ?_⟩
    obtain ⟨j, hj, e⟩ := List.getElem_of_mem hm
    have hj' : j < i := by simp at hj; omega
    rw [List.getElem_take] at e
    rw [List.Nodup, List.pairwise_iff_getElem] at h2
    exact h2 j i (by omega) hi hj' e
section
variable {h : List Call} (hl : h.length ≤ 40)
include hl
def keepsAt (must : Call → Call → Bool) (h : List Call) (l : List Int) (i : Nat) : Bool := (l[i]?.map fun x => (l.take i).any fun y => must (hc h x) (hc h y)).getD false
def keepsL (must : Call → Call → Bool) (h : List Call) (l : List Int) : Bool := !(List.range l.length).any (keepsAt must h l)
def allowsF (S : List Spec) (h : List Call) : List Int → Int × Int → Bool
  | [], _ => true
  | x :: l, s => okS S (hc h x) s && allowsF S h l (doS S (hc h x) s)
def allowsL (S : List Spec) (h : List Call) (l : List Int) : Bool := allowsF S h l (0, 0)
end
end Go.Am

set_option maxRecDepth 100000
set_option linter.unusedVariables false
set_option linter.unusedSimpArgs false
namespace Go.Am
open Go
def cN (l : List Nat) : List Int := l.map (fun i : Nat => (i : Int))
@[simp] theorem cN_snoc (l : List Nat) (i : Nat) : cN (l ++ [i]) = cN l ++ [(i : Int)] := by simp [cN]
theorem cN_mem {l : List Nat} {i : Nat} : (i : Int) ∈ cN l ↔ i ∈ l := by
  simp only [cN, List.mem_map]
  constructor
  · rintro ⟨j, hj, e⟩; have : j = i := by omega
    subst this; exact hj
  · intro h; exact ⟨i, h, rfl⟩
def maskL (l : List Nat) : Nat := l.foldl ins 0
def runL (S : List Spec) (h : List Call) (l : List Nat) : Int × Int := l.foldl (fun s (i : Nat) => doS S (hc h (i : Int)) s) (0, 0)
theorem maskL_snoc (l : List Nat) (i : Nat) : maskL (l ++ [i]) = ins (maskL l) i := by simp [maskL]
theorem runL_snoc (S : List Spec) (h : List Call) (l : List Nat) (i : Nat) : runL S h (l ++ [i]) = doS S (hc h (i : Int)) (runL S h l) := by simp [runL]
theorem snoc_ind {α : Type} {P : List α → Prop} (h0 : P []) (h1 : ∀ l a, P l → P (l ++ [a])) : ∀ l, P l := by
  intro l
  have : ∀ k (l : List α), l.length = k → P l := by
    intro k
    induction k with
    | zero => intro l hl; rw [List.length_eq_zero_iff.1 hl]; exact h0
    | succ k ih =>
      intro l hl
      have hne : l ≠ [] := by intro e; rw [e] at hl; cases hl
      rw [← List.dropLast_concat_getLast hne]
      exact h1 _ _ (ih _ (by rw [List.length_dropLast, hl]; rfl))
  exact this _ l rfl
theorem maskL_test (l : List Nat) (i : Nat) : (maskL l).testBit i = decide (i ∈ l) := by
  induction l using snoc_ind with
  | h0 => simp [maskL]
  | h1 l a ih =>
    rw [maskL_snoc, ins_test, ih, Bool.eq_iff_iff]
    simp only [Bool.or_eq_true, decide_eq_true_eq, List.mem_append, List.mem_singleton]
    constructor
    · rintro (h | h)
      · exact .inl h
      · exact .inr h.symm
    · rintro (h | h)
      · exact .inl h
      · exact .inr h.symm
theorem allowsF_snoc (S : List Spec) (h : List Call) (x : Int) : ∀ (l : List Int) (s : Int × Int), allowsF S h (l ++ [x]) s = (allowsF S h l s && okS S (hc h x) (l.foldl (fun s x => doS S (hc h x) s) s))
  | [], s => by simp [allowsF]
  | y :: l, s => by simp only [List.cons_append, allowsF, allowsF_snoc S h x l, List.foldl_cons, Bool.and_assoc]
theorem allowsL_snoc (S : List Spec) (h : List Call) (l : List Nat) (i : Nat) : allowsL S h (cN (l ++ [i])) = (allowsL S h (cN l) && okS S (hc h (i : Int)) (runL S h l)) := by
  unfold allowsL
  rw [cN_snoc, allowsF_snoc]
  congr 2
  unfold runL cN
  rw [List.foldl_map]
theorem keepsL_snoc (must : Call → Call → Bool) (h : List Call) (l : List Int) (x : Int) : keepsL must h (l ++ [x]) = (keepsL must h l && !l.any fun y => must (hc h x) (hc h y)) := by
  unfold keepsL
  rw [List.length_append, List.length_singleton, List.range_succ, List.any_append]
  have h1 : (List.range l.length).any (keepsAt must h (l ++ [x])) = (List.range l.length).any (keepsAt must h l) := by
    refine any_congr fun i hi => ?_
    have hi := List.mem_range.1 hi
    unfold keepsAt
    rw [List.getElem?_append_left hi, List.take_append_of_le_length (by omega)]
  have h2 : keepsAt must h (l ++ [x]) l.length = l.any fun y => must (hc h x) (hc h y) := by
    unfold keepsAt
    rw [List.getElem?_append_right (Nat.le_refl _)]
    simp
  rw [h1]
  simp only [List.any_cons, List.any_nil, Bool.or_false, h2, Bool.not_or]
structure MustOk (must : Call → Call → Bool) (h : List Call) : Prop where
  ret : ∀ c ∈ h, ∀ d ∈ h, must c d = true → 0 < c.to
  irr : ∀ c ∈ h, must c c = false
theorem bef_must {h : List Call} (hok : ∀ c ∈ h, callOk c = true) : MustOk bef h := by
  refine ⟨fun c hc d _ hb => ?_, fun c hc => ?_⟩
  · have := (callOk_iff c).1 (hok c hc)
    simp only [bef, Bool.and_eq_true, decide_eq_true_eq] at hb; omega
  · have := (callOk_iff c).1 (hok c hc)
    simp only [bef, Bool.and_eq_false_iff, decide_eq_false_iff_not]; omega
section
variable {S : List Spec} {h : List Call} {must : Call → Call → Bool}
def closed (must : Call → Call → Bool) (h : List Call) (m : Nat) : Prop := ∀ (k i : Nat) (c d : Call), h[k]? = some c → h[i]? = some d → m.testBit i = true → m.testBit k = false → must c d = false
def dead (must : Call → Call → Bool) (h : List Call) (m : Nat) : Prop := ∃ (k i : Nat) (c d : Call), h[k]? = some c ∧ h[i]? = some d ∧ m.testBit i = true ∧ m.testBit k = false ∧ 0 < c.to ∧ must c d = true
theorem closed_ins {m i : Nat} {c : Call} (hcl : closed must h m) (hc : h[i]? = some c) (hf : freeM h must m i c = true) : closed must h (ins m i) := by
  intro k j c1 d1 hk hj hb1 hb2
  rw [ins_test, Bool.or_eq_true] at hb1
  rw [ins_test, Bool.or_eq_false_iff] at hb2
  rcases hb1 with hb | hb
  · exact hcl k j c1 d1 hk hj hb hb2.1
  · have hij : i = j := by simpa using hb
    subst hij
    rw [hc] at hj; cases hj
    simp only [freeM, Bool.and_eq_true, List.all_eq_true, List.mem_range] at hf
    have := hf.2 k (List.getElem?_eq_some_iff.1 hk).1
    rw [hb2.1, hk] at this
    simpa using this
theorem isL_ends {l : List Nat} (hok : ∀ c ∈ h, callOk c = true) (hn : nums h (cN l) = true) : isL h (cN l) = endsM h (maskL l) := by
  unfold isL full endsM
  rw [hn, Bool.true_and]
  congr 1
  refine any_congr fun i hi => ?_
  have hi := List.mem_range.1 hi
  have hc := List.getElem?_eq_getElem hi
  have hcm := List.getElem_mem hi
  generalize h[i] = c at hc hcm
  have := (callOk_iff c).1 (hok c hcm)
  rw [hc, Option.map_some, Option.map_some, Option.getD_some, Option.getD_some, maskL_test]
  have e1 : decide (c.to ≠ 0) = decide (0 < c.to) := by rw [decide_eq_decide]; omega
  have e2 : (cN l).contains (i : Int) = decide (i ∈ l) := by rw [Bool.eq_iff_iff]; simp [cN_mem]
  rw [e1, e2]
end
end Go.Am

set_option maxRecDepth 100000
set_option linter.unusedVariables false
set_option linter.unusedSimpArgs false
namespace Go.Am
open Go
section
variable (S : List Spec) (h : List Call) (hs : SpecsOk S) (hl : h.length < Lg)
include hs hl
end
end Go.Am

set_option maxRecDepth 100000
set_option linter.unusedVariables false
set_option linter.unusedSimpArgs false
namespace Go.Am
open Go
section
variable {h : List Call}
end
section
variable (S : List Spec) (h : List Call) (hs : SpecsOk S) (hl : h.length < Lg) (l : List Int) (hll : l.length < Lg)
include hl hll
include hs
end
end Go.Am

set_option maxRecDepth 100000
set_option linter.unusedVariables false
set_option linter.unusedSimpArgs false
namespace Go.Am
open Go
section
variable {h : List Call}
theorem pick_loop {step : (List D × Int) → Option ((List D × Int) ⊕ List D)} (hl : h.length ≤ 40) (p : Call → Bool)
    (hs : ∀ i c (l : List Call), h[i]? = some c → i < h.length → l.length ≤ 40 → step (eCalls l, (i : Int)) = some (.inl (eCalls (bif p c then l ++ [c] else l), ((i + 1 : Nat) : Int)))) (he : ∀ l, step (l, (h.length : Int)) = some (.inr l)) :
    iter step ([], 0) = some (eCalls (h.filter p)) := by
  have := iter_pre (step := step) h (fun pre => pre.filter p) (fun l i => (eCalls l, (i : Int))) (fun l => eCalls l)
    (fun i c hc hi => by
      rw [hs i c _ hc hi (Nat.le_trans (List.length_filter_le _ _) (by simp; omega))]
      cases hp : p c <;> simp [List.filter_append, hp]) (he _)
  exact this
theorem H39_eq (S : List Spec) (hs : SpecsOk S) (hl : h.length < Lg) : H39 Ar.std (eSpecs S) (eCalls h) = some (areS S && forH S h) := by
  simp only [H39, H21_eq S h hs hl, bsome, std_zeq]
  cases areS S <;> simp
end
end Go.Am

set_option maxRecDepth 100000
set_option linter.unusedVariables false
set_option linter.unusedSimpArgs false
namespace Go.Am
open Go
section
variable (S : List Spec) (h : List Call) (must : Call → Call → Bool)
def isFrom : Nat → Int × Int → List Nat → Prop
  | m, _, [] => endsM h m = true
  | m, s, i :: l => ∃ p, nextM S h must m s i = some p ∧ isFrom p.1 p.2 l
end
section
variable {S : List Spec} {h : List Call} {must : Call → Call → Bool}
theorem mem_ords : ∀ (l : List Nat) (m : Nat) (s : Int × Int), l ∈ ords S h must m s ↔ isFrom S h must m s l
  | [], m, s => by
    rw [ords_eq]
    simp only [List.mem_append, List.mem_flatMap, isFrom]
    constructor
    · rintro (hx | ⟨i, _, hx⟩)
      · cases he : endsM h m <;> rw [he] at hx <;> simp at hx ⊢
      · cases hn : nextM S h must m s i <;> rw [hn] at hx <;> simp at hx
    · intro he; rw [he]; exact .inl (by simp)
  | i :: l, m, s => by
    rw [ords_eq]
    simp only [List.mem_append, List.mem_flatMap, isFrom]
    constructor
    · rintro (hx | ⟨j, _, hx⟩)
      · cases he : endsM h m <;> rw [he] at hx <;> simp at hx
      · cases hn : nextM S h must m s j with
        | none => rw [hn] at hx; simp at hx
        | some p =>
          rw [hn] at hx
          simp only [Option.map_some, Option.getD_some, List.mem_map, List.cons.injEq] at hx
          obtain ⟨y, hy, e1, e2⟩ := hx
          subst e1
          rw [e2] at hy
          exact ⟨p, hn, (mem_ords l p.1 p.2).1 hy⟩
    · rintro ⟨p, hn, hf⟩
      refine .inr ⟨i, ?_, ?_⟩
      · obtain ⟨c, _, hi, _⟩ := nextM_some hn
        exact List.mem_range.2 hi
      · rw [hn]
        simp only [Option.map_some, Option.getD_some, List.mem_map, List.cons.injEq]
        exact ⟨l, (mem_ords l p.1 p.2).2 hf, trivial, rfl⟩
theorem keepsL_iff (must : Call → Call → Bool) (h : List Call) (l : List Int) : keepsL must h l = true ↔ l.Pairwise fun y x => must (hc h x) (hc h y) = false := by
  induction l using snoc_ind with
  | h0 => simp [keepsL]
  | h1 l a ih =>
    rw [keepsL_snoc, Bool.and_eq_true, ih, List.pairwise_append]
    simp only [List.pairwise_singleton, List.mem_singleton, forall_eq, true_and, Bool.not_eq_true', List.any_eq_false, Bool.not_eq_true]
theorem full_iff {l : List Int} : full h l = true ↔ ∀ (i : Nat) c, h[i]? = some c → c.to ≠ 0 → (i : Int) ∈ l := by
  simp only [full, Bool.not_eq_true', List.any_eq_false, List.mem_range]
  constructor
  · intro hf i c hc hto
    have := hf i (List.getElem?_eq_some_iff.1 hc).1
    rw [hc] at this
    simp only [Option.map_some, Option.getD_some, Bool.and_eq_true, decide_eq_true_eq, Bool.not_eq_true', not_and, Bool.not_eq_false, List.contains_iff_mem] at this
    exact this hto
  · intro hf i hi
    have hc := List.getElem?_eq_getElem hi
    rw [hc]
    simp only [Option.map_some, Option.getD_some, Bool.and_eq_true, decide_eq_true_eq, Bool.not_eq_true', not_and, Bool.not_eq_false, List.contains_iff_mem]
    exact hf i _ hc
def isOrdM (S : List Spec) (h : List Call) (must : Call → Call → Bool) (l : List Int) : Bool := isL h l && (keepsL must h l && allowsL S h l)
theorem allowsF_app (S : List Spec) (h : List Call) : ∀ (l m : List Int) (s : Int × Int), allowsF S h (l ++ m) s = (allowsF S h l s && allowsF S h m (l.foldl (fun s x => doS S (hc h x) s) s))
  | [], m, s => by simp [allowsF]
  | x :: l, m, s => by simp only [List.cons_append, allowsF, allowsF_app S h l m, List.foldl_cons, Bool.and_assoc]
theorem runL_cN (S : List Spec) (h : List Call) (l : List Nat) : (cN l).foldl (fun s x => doS S (hc h x) s) (0, 0) = runL S h l := by
  unfold cN runL; rw [List.foldl_map]
theorem nodup_cN {l : List Nat} : (cN l).Nodup ↔ l.Nodup := by
  unfold cN
  constructor
  · intro hn
    induction l with
    | nil => simp
    | cons a l ih =>
      simp only [List.map_cons, List.nodup_cons, List.mem_map, not_exists, not_and] at hn ⊢
      exact ⟨fun ha => hn.1 a ha rfl, ih hn.2⟩
  · intro hn
    induction l with
    | nil => simp
    | cons a l ih =>
      simp only [List.map_cons, List.nodup_cons, List.mem_map, not_exists, not_and] at hn ⊢
      exact ⟨fun b hb e => hn.1 (by have : b = a := by omega
                                    rw [← this]; exact hb), ih hn.2⟩
theorem from_isOrd (hok : ∀ c ∈ h, callOk c = true) (hm : MustOk must h) : ∀ (l2 l1 : List Nat), nums h (cN l1) = true → allowsL S h (cN l1) = true → keepsL must h (cN l1) = true → closed must h (maskL l1) →
    (isFrom S h must (maskL l1) (runL S h l1) l2 ↔ isOrdM S h must (cN (l1 ++ l2)) = true)
  | [], l1, hn, ha, hk, hcl => by
    rw [List.append_nil]
    simp only [isFrom, isOrdM, hk, ha, Bool.and_true]
    rw [isL_ends hok hn]
  | i :: l2, l1, hn, ha, hk, hcl => by
    have hrange : ∀ x ∈ cN l1, inH h x = true := (nums_iff.1 hn).1
    simp only [isFrom]
    have happ : l1 ++ i :: l2 = (l1 ++ [i]) ++ l2 := by simp
    constructor
    · rintro ⟨p, hnx, hf⟩
      obtain ⟨c, hci, hi, ht, hfr, hos, rfl⟩ := nextM_some hnx
      have hhc := hc_nat hci
      have hil : i ∉ l1 := by rw [maskL_test] at ht; simpa using ht
      have h1 : nums h (cN (l1 ++ [i])) = true := by
        rw [cN_snoc, nums_iff]
        obtain ⟨n1, n2⟩ := nums_iff.1 hn
        refine ⟨fun x hx => ?_, ?_⟩
        · rw [List.mem_append, List.mem_singleton] at hx
          rcases hx with hx | rfl
          · exact n1 x hx
          · exact inH_iff.2 ⟨by omega, by omega⟩
        · rw [List.nodup_append]
          refine ⟨n2, by simp, fun x hx y hy => ?_⟩
          rw [List.mem_singleton] at hy; subst hy
          rintro rfl
          exact hil (cN_mem.1 hx)
      have h2 : allowsL S h (cN (l1 ++ [i])) = true := by rw [allowsL_snoc, ha, hhc, hos]; rfl
      have h3 : keepsL must h (cN (l1 ++ [i])) = true := by
        rw [cN_snoc, keepsL_snoc, hk, hhc, Bool.true_and, Bool.not_eq_true', List.any_eq_false]
        intro y hy
        obtain ⟨j, hj, rfl⟩ := List.mem_map.1 hy
        have := hcl i j c (hc h (j : Int)) hci (by have := hc_get (hrange _ hy); simpa using this) (by rw [maskL_test]; simpa using hj) ht
        simp [this]
      have h4 : closed must h (maskL (l1 ++ [i])) := by rw [maskL_snoc]; exact closed_ins hcl hci hfr
      have := (from_isOrd hok hm l2 (l1 ++ [i]) h1 h2 h3 h4).1 (by rw [maskL_snoc, runL_snoc, hhc]; exact hf)
      rw [happ]; exact this
    · intro ho
      have ho' := ho
      simp only [isOrdM, isL, Bool.and_eq_true] at ho
      obtain ⟨⟨o1, o2⟩, o3, o4⟩ := ho
      obtain ⟨n1, n2⟩ := nums_iff.1 o1
      have hmem : (i : Int) ∈ cN (l1 ++ i :: l2) := cN_mem.2 (by simp)
      have hii := inH_iff.1 (n1 _ hmem)
      have hi : i < h.length := by omega
      have hci := List.getElem?_eq_getElem hi
      have hcm := List.getElem_mem hi
      generalize h[i] = c at hci hcm
      have hhc := hc_nat hci
      have hnd := nodup_cN.1 n2
      have hil : i ∉ l1 := by
        rw [List.nodup_append] at hnd
        intro hx
        exact hnd.2.2 i hx i (by simp) rfl
      have ht : (maskL l1).testBit i = false := by rw [maskL_test]; simpa using hil
      have hk2 := (keepsL_iff must h _).1 o3
      have hos : okS S c (runL S h l1) = true := by
        unfold allowsL at o4
        rw [show cN (l1 ++ i :: l2) = cN l1 ++ (i : Int) :: cN l2 by simp [cN], allowsF_app, Bool.and_eq_true, runL_cN] at o4
        have := o4.2
        simp only [allowsF, Bool.and_eq_true, hhc] at this
        exact this.1
      have hfr : freeM h must (maskL l1) i c = true := by
        simp only [freeM, ht, Bool.not_false, Bool.true_and, List.all_eq_true, List.mem_range]
        intro k hkl
        have hck := List.getElem?_eq_getElem hkl
        have hckm := List.getElem_mem hkl
        generalize h[k] = d at hck hckm
        rw [hck]
        simp only [Option.map_some, Option.getD_some, Bool.or_eq_true, Bool.not_eq_true']
        by_cases hkin : k ∈ l1
        · left; rw [maskL_test]; simpa using hkin
        · right
          cases hmu : must d c with
          | false => rfl
          | true =>
            exfalso
            have hret := hm.ret d hckm c hcm hmu
            have hkm := cN_mem.1 (full_iff.1 o2 k d hck (by omega))
            have hne : k ≠ i := by
              rintro rfl
              rw [hck] at hci; cases hci
              rw [hm.irr _ hckm] at hmu; cases hmu
            have hk3 : k ∈ l2 := by
              rw [List.mem_append, List.mem_cons] at hkm
              rcases hkm with h | h | h
              · exact absurd h hkin
              · exact absurd h hne
              · exact h
            rw [show cN (l1 ++ i :: l2) = cN l1 ++ (i : Int) :: cN l2 by simp [cN], List.pairwise_append] at hk2
            have := hk2.2.1
            rw [List.pairwise_cons] at this
            have := this.1 (k : Int) (cN_mem.2 hk3)
            rw [hc_nat hck, hhc, hmu] at this
            cases this
      have hnx : nextM S h must (maskL l1) (runL S h l1) i = some (ins (maskL l1) i, doS S c (runL S h l1)) := by simp [nextM, hci, hfr, hos]
      refine ⟨_, hnx, ?_⟩
      have h1 : nums h (cN (l1 ++ [i])) = true := by
        rw [nums_iff]
        refine ⟨fun x hx => n1 x ?_, nodup_cN.2 ?_⟩
        · rw [happ, show cN (l1 ++ [i] ++ l2) = cN (l1 ++ [i]) ++ cN l2 by simp [cN]]; exact List.mem_append_left _ hx
        · rw [happ] at hnd; exact (List.nodup_append.1 hnd).1
      have h2 : allowsL S h (cN (l1 ++ [i])) = true := by rw [allowsL_snoc, ha, hhc, hos]; rfl
      have h3 : keepsL must h (cN (l1 ++ [i])) = true := by
        rw [keepsL_iff]
        rw [happ, show cN (l1 ++ [i] ++ l2) = cN (l1 ++ [i]) ++ cN l2 by simp [cN], List.pairwise_append] at hk2
        exact hk2.1
      have h4 : closed must h (maskL (l1 ++ [i])) := by rw [maskL_snoc]; exact closed_ins hcl hci hfr
      have := (from_isOrd hok hm l2 (l1 ++ [i]) h1 h2 h3 h4).2 (by rw [happ] at ho'; exact ho')
      rw [maskL_snoc, runL_snoc, hhc] at this
      exact this
theorem mem_ords0 (hok : ∀ c ∈ h, callOk c = true) (hm : MustOk must h) (l : List Nat) : l ∈ ords S h must 0 (0, 0) ↔ isOrdM S h must (cN l) = true := by
  rw [mem_ords]
  have := from_isOrd (S := S) hok hm l [] rfl rfl rfl (fun k i c d _ _ hb _ => by simp [maskL] at hb)
  exact this
end
end Go.Am

set_option maxRecDepth 100000
set_option linter.unusedVariables false
set_option linter.unusedSimpArgs false
namespace Go.Am
open Go
section
variable {S : List Spec} {h : List Call} {must : Call → Call → Bool}
theorem isOrdM_parts {l : List Int} (ho : isOrdM S h must l = true) : (∀ x ∈ l, inH h x = true) ∧ l.Nodup ∧ (∀ (i : Nat) c, h[i]? = some c → c.to ≠ 0 → (i : Int) ∈ l) ∧ l.Pairwise (fun y x => must (hc h x) (hc h y) = false) ∧ allowsL S h l = true := by
  simp only [isOrdM, isL, Bool.and_eq_true] at ho
  obtain ⟨⟨o1, o2⟩, o3, o4⟩ := ho
  obtain ⟨n1, n2⟩ := nums_iff.1 o1
  exact ⟨n1, n2, full_iff.1 o2, (keepsL_iff _ _ _).1 o3, o4⟩
end
end Go.Am

set_option maxRecDepth 100000
set_option linter.unusedVariables false
set_option linter.unusedSimpArgs false
namespace Go.Am
open Go
theorem cCall_cells (c d : Call) : ([D.int .i64 c.1, .int .i64 c.2.1, .int .i64 c.2.2.1, .int .i64 c.2.2.2.1, .int .i64 c.2.2.2.2.1, .int .i64 c.2.2.2.2.2] = [D.int .i64 d.1, .int .i64 d.2.1, .int .i64 d.2.2.1, .int .i64 d.2.2.2.1, .int .i64 d.2.2.2.2.1, .int .i64 d.2.2.2.2.2]) ↔ c = d := by
  obtain ⟨a, b, c, e, f, g⟩ := c
  obtain ⟨a', b', c', e', f', g'⟩ := d
  simp
theorem H34_eq (l m : List Call) (hl : l.length < Lg) : H34 Ar.std (eCalls l) (eCalls m) = some (decide (l = m)) := by
  simp only [H34, std_zeq, len_enc]
  by_cases hlen : l.length = m.length
  · have e : iter (H34L0 Ar.std (eCalls l) (eCalls m)) 0 = some (bif (List.range l.length).any (fun i => decide (l[i]? ≠ m[i]?)) then .inr () else .inl ()) := by
      refine iter_rng l.length _ _ _ (fun i hi => ?_) ?_
      · have hi2 : i < m.length := by omega
        have h1 := List.getElem?_eq_getElem hi
        have h2 := List.getElem?_eq_getElem hi2
        generalize l[i] = c at h1
        generalize m[i] = d at h2
        have hd : (∀ {inst : Decidable ([D.int .i64 c.1, .int .i64 c.2.1, .int .i64 c.2.2.1, .int .i64 c.2.2.2.1, .int .i64 c.2.2.2.2.1, .int .i64 c.2.2.2.2.2] = [D.int .i64 d.1, .int .i64 d.2.1, .int .i64 d.2.2.1, .int .i64 d.2.2.2.1, .int .i64 d.2.2.2.2.1, .int .i64 d.2.2.2.2.2])}, @decide _ inst = decide (c = d)) := by
          intro inst
          rw [decide_eq_decide]; exact cCall_cells c d
        simp only [H34L0, std_zlt, len_enc, ltC hi, cond_true, gt_enc h1, gt_enc h2, bsome, std_deq, hd, std_wrp, std_zadd, wrap1 hi hl, h1, h2]
        by_cases he : c = d
        · subst he; simp
        · simp [he]
      · simp [H34L0]
    have hc : decide ((l.length : Int) = (m.length : Int)) = true := decide_eq_true (by omega)
    simp only [hc, cond_true, e, bsome]
    by_cases he : l = m
    · subst he; simp
    · have : (List.range l.length).any (fun i => decide (l[i]? ≠ m[i]?)) = true := by
        refine Classical.byContradiction fun hn => he ?_
        rw [Bool.not_eq_true, List.any_eq_false] at hn
        refine List.ext_getElem? fun i => ?_
        rcases Nat.lt_or_ge i l.length with h | h
        · have := hn i (List.mem_range.2 h); simpa using this
        · rw [List.getElem?_eq_none h, List.getElem?_eq_none (by omega)]
      rw [this]; simp [he]
  · have hc : decide ((l.length : Int) = (m.length : Int)) = false := decide_eq_false (by omega)
    have : ¬ l = m := fun e => hlen (by rw [e])
    simp [hc, this]
def playOk (S : List Spec) (c : Call) : Bool := decide (c.sa = 0) && (decide (c.fr = 0) && (decide (c.to = 0) && (btw 0 c.ob ((S.length : Int) - 1) && (btw 0 c.op ((spOf S c).2.1 - 1) && btw 0 c.th 3))))
section
variable (S : List Spec) (w : List Call) (hs : SpecsOk S) (hw : w.length < Lg)
include hs hw
end
end Go.Am
namespace Go.Am
section
variable (S : List Spec) (w : List Call) (hs : SpecsOk S) (hw : w.length < Lg)
include hs hw
end
end Go.Am

set_option maxRecDepth 100000
set_option linter.unusedVariables false
set_option linter.unusedSimpArgs false
namespace Go.Am
open Go
section
variable {S : List Spec}
section
variable {w : List Call} (ha : areS S = true) (h8 : w.length ≤ 8) (hp : w.all (playOk S) = true)
include ha h8 hp
end
end
end Go.Am

set_option maxRecDepth 100000
set_option linter.unusedVariables false
set_option linter.unusedSimpArgs false
namespace Go.Am
open Go
theorem validH_pw {h : List Call} : validH h = true ↔ h.length ≤ 8 ∧ (∀ c ∈ h, callOk c = true) ∧ h.Pairwise fun d c => meet c d = false := by
  rw [validH_iff]
  constructor
  · rintro ⟨h1, h2⟩
    refine ⟨h1, fun c hc => ?_, ?_⟩
    · obtain ⟨i, hi, rfl⟩ := List.getElem_of_mem hc
      exact (h2 i _ (List.getElem?_eq_getElem hi)).1
    · rw [List.pairwise_iff_getElem]
      intro i j hi hj hij
      refine (h2 j _ (List.getElem?_eq_getElem hj)).2 _ ?_
      have hlt : i < (h.take j).length := by simp; omega
      have e : (h.take j)[i] = h[i] := List.getElem_take
      rw [← e]; exact List.getElem_mem hlt
  · rintro ⟨h1, h2, h3⟩
    refine ⟨h1, fun i c hc => ⟨h2 c (List.mem_of_getElem? hc), fun d hd => ?_⟩⟩
    obtain ⟨hi, rfl⟩ := List.getElem?_eq_some_iff.1 hc
    obtain ⟨j, hj, rfl⟩ := List.getElem_of_mem hd
    have hj1 : j < i ∧ j < h.length := by simp at hj; omega
    rw [List.getElem_take]
    exact List.pairwise_iff_getElem.1 h3 j i hj1.2 hi hj1.1
theorem validH_nodup {h : List Call} (hv : validH h = true) : h.Nodup := by
  obtain ⟨h1, h2, h3⟩ := validH_pw.1 hv
  refine h3.imp ?_
  intro a b hm e
  subst e
  unfold meet at hm
  simp at hm
def alw (S : List Spec) : List Call → Int × Int → Bool
  | [], _ => true
  | c :: L, s => okS S c s && alw S L (doS S c s)
theorem allowsF_alw (S : List Spec) (h : List Call) : ∀ (l : List Int) (s : Int × Int), allowsF S h l s = alw S (l.map (hc h)) s
  | [], _ => rfl
  | x :: l, s => by simp only [allowsF, List.map_cons, alw, allowsF_alw S h l]
structure LinC (S : List Spec) (h L : List Call) : Prop where
  nd : L.Nodup
  sub : ∀ c ∈ L, c ∈ h
  full : ∀ c ∈ h, c.to ≠ 0 → c ∈ L
  keep : L.Pairwise fun y x => bef x y = false
  allow : alw S L (0, 0) = true
theorem lin_iff {S : List Spec} {h : List Call} (hv : validH h = true) : ords0 S h ≠ [] ↔ ∃ L, LinC S h L := by
  obtain ⟨_, hok, _⟩ := validH_pw.1 hv
  have hnd := validH_nodup hv
  constructor
  · intro hne
    obtain ⟨l, hl⟩ : ∃ l, l ∈ ords0 S h := by
      cases ho : ords0 S h with
      | nil => exact absurd ho hne
      | cons a r => exact ⟨a, by simp⟩
    obtain ⟨x1, x2, x3, x4, x5⟩ := isOrdM_parts ((mem_ords0 hok (bef_must hok) l).1 hl)
    refine ⟨(cN l).map (hc h), ?_, ?_, ?_, ?_, ?_⟩
    · rw [List.Nodup, List.pairwise_map]
      refine List.Pairwise.imp_of_mem ?_ x2
      intro a b ha hb hne e
      have ga := hc_get (x1 a ha)
      have gb := hc_get (x1 b hb)
      have ia := inH_iff.1 (x1 a ha)
      have ib := inH_iff.1 (x1 b hb)
      rw [e] at ga
      have := (List.getElem?_eq_some_iff.1 ga)
      have hb2 := (List.getElem?_eq_some_iff.1 gb)
      have heq : a.toNat = b.toNat := by
        refine (List.getElem_inj hnd (h₀ := this.1) (h₁ := hb2.1)).1 ?_
        rw [this.2, hb2.2]
      omega
    · intro c hc'
      obtain ⟨x, hx, rfl⟩ := List.mem_map.1 hc'
      exact hc_mem (x1 x hx)
    · intro c hcm hto
      obtain ⟨i, hi, rfl⟩ := List.getElem_of_mem hcm
      have hg := List.getElem?_eq_getElem hi
      exact List.mem_map.2 ⟨(i : Int), x3 i _ hg hto, hc_nat hg⟩
    · rw [List.pairwise_map]; exact x4
    · rw [← allowsF_alw]; exact x5
  · rintro ⟨L, hL⟩ hnil
    have hidx : ∀ c ∈ L, ∃ i : Nat, h[i]? = some c := fun c hcm => by
      obtain ⟨i, hi, e⟩ := List.getElem_of_mem (hL.sub c hcm)
      exact ⟨i, by rw [List.getElem?_eq_getElem hi, e]⟩
    have hl : ∃ l : List Nat, (cN l).map (hc h) = L ∧ ∀ x ∈ cN l, inH h x = true := by
      have : ∀ L : List Call, (∀ c ∈ L, ∃ i : Nat, h[i]? = some c) → ∃ l : List Nat, (cN l).map (hc h) = L ∧ ∀ x ∈ cN l, inH h x = true := by
        intro L
        induction L with
        | nil => intro _; exact ⟨[], rfl, by simp [cN]⟩
        | cons c L ih =>
          intro hx
          obtain ⟨l, h1, h2⟩ := ih (fun d hd => hx d (by simp [hd]))
          obtain ⟨i, hi⟩ := hx c (by simp)
          refine ⟨i :: l, ?_, ?_⟩
          · show hc h (i : Int) :: (cN l).map (hc h) = c :: L
            rw [hc_nat hi, h1]
          · intro x hxm
            rcases List.mem_cons.1 (show x ∈ (i : Int) :: cN l from hxm) with rfl | hxm
            · have := (List.getElem?_eq_some_iff.1 hi).1
              exact inH_iff.2 ⟨by omega, by omega⟩
            · exact h2 x hxm
      exact this L hidx
    obtain ⟨l, h1, h2⟩ := hl
    have hmem : l ∈ ords0 S h := by
      refine (mem_ords0 hok (bef_must hok) l).2 ?_
      simp only [isOrdM, isL, Bool.and_eq_true]
      refine ⟨⟨nums_iff.2 ⟨h2, ?_⟩, full_iff.2 fun i c hi hto => ?_⟩, (keepsL_iff _ _ _).2 ?_, ?_⟩
      · have := hL.nd
        rw [← h1, List.Nodup, List.pairwise_map] at this
        exact this.imp fun hq e => hq (by rw [e])
      · have hcm := hL.full c (List.mem_of_getElem? hi) hto
        rw [← h1] at hcm
        obtain ⟨x, hx, e⟩ := List.mem_map.1 hcm
        have gx := hc_get (h2 x hx)
        have ix := inH_iff.1 (h2 x hx)
        rw [e] at gx
        have a1 := List.getElem?_eq_some_iff.1 gx
        have a2 := List.getElem?_eq_some_iff.1 hi
        have : x.toNat = i := (List.getElem_inj hnd (h₀ := a1.1) (h₁ := a2.1)).1 (by rw [a1.2, a2.2])
        have : x = (i : Int) := by omega
        rw [← this]; exact hx
      · have := hL.keep
        rw [← h1, List.pairwise_map] at this
        exact this
      · show allowsF S h (cN l) (0, 0) = true
        rw [allowsF_alw, h1]; exact hL.allow
    rw [hnil] at hmem
    cases hmem
theorem lin_of {S : List Spec} {h : List Call} (hs : SpecsOk S) (ha : areS S = true) (hf : forH S h = true) : H26 Ar.std (eSpecs S) (eCalls h) = some (!(ords0 S h).isEmpty, 0) := by
  have he : errH S h = 0 := by simp [errH, ha, hf]
  have hl : h.length < Lg := by
    obtain ⟨h8, _⟩ := forH_in ha hf
    exact (by omega : h.length < 9223372036854775808)
  rw [H26_eq S h hs hl, he]; rfl
end Go.Am

set_option maxRecDepth 100000
set_option linter.unusedVariables false
set_option linter.unusedSimpArgs false
set_option linter.unusedSectionVars false
namespace Go.Am
open Go
section
variable {τ ρ : Type} {c : Cod τ} {l : List D}
end
end Go.Am

set_option maxRecDepth 100000
set_option linter.unusedVariables false
set_option linter.unusedSimpArgs false
set_option linter.unusedSectionVars false
namespace Go.Am
open Go
theorem scalCalls (h : List Call) : scalars (eCalls h) = true := by
  simp only [scalars, eCalls, enc, List.all_map, List.all_eq_true]
  intro c _
  rfl
theorem fzC (h : List Call) (n : Int) (hn : n = (h.length : Int)) : fz Ar.std (eCalls h) 0 n = some (eCalls h) := by
  subst hn
  have : (eCalls h).take h.length = eCalls h := by rw [List.take_of_length_le (by simp)]
  simp [fz, this]
theorem setC (h : List Call) (i : Nat) (x y z u v w : Int) : Ar.std.lset (eCalls h) i (.agg [(.int .i64 x), (.int .i64 y), (.int .i64 z), (.int .i64 u), (.int .i64 v), (.int .i64 w)]) = eCalls (h.set i (x, y, z, u, v, w)) := enc_set (c := cCall) h i (x, y, z, u, v, w)
section
variable {h : List Call} (hl : h.length < Lg) {i b e : Int}
include hl
end
end Go.Am

set_option maxRecDepth 100000
set_option linter.unusedVariables false
set_option linter.unusedSimpArgs false
set_option linter.unusedSectionVars false
namespace Go.Am
open Go
def cutC (m : Int) (c : Call) : Call := bif decide (m < c.to) then (c.1, c.2.1, c.2.2.1, 0, c.2.2.2.2.1, 0) else c
def untH (h : List Call) (m : Int) : List Call := (h.filter fun c => decide (c.fr ≤ m)).map (cutC m)
def untR (h : List Call) (m : Int) : List Call × Int := bif validH h then (bif btw 0 m 100 then (untH h m, 0) else ([], 2)) else ([], 20)
def midL {α : Type} (f : α → α) (l : List α) (i : Nat) : List α := (l.take i).map f ++ l.drop i
theorem midL_get {α : Type} (f : α → α) {l : List α} {i : Nat} {a : α} (h : l[i]? = some a) : (midL f l i)[i]? = some a := by
  have hi : i < l.length := by rw [List.getElem?_eq_some_iff] at h; exact h.1
  unfold midL
  rw [List.getElem?_append_right (by simp; omega)]
  have : i - ((l.take i).map f).length = 0 := by simp; omega
  rw [this, List.getElem?_drop]; simpa using h
theorem midL_step {α : Type} (f : α → α) {l : List α} {i : Nat} {a : α} (h : l[i]? = some a) : midL f l (i + 1) = (l.take i).map f ++ f a :: l.drop (i + 1) := by
  unfold midL
  rw [take_succ_get h, List.map_append]; simp
theorem midL_drop {α : Type} (f : α → α) {l : List α} {i : Nat} {a : α} (h : l[i]? = some a) : midL f l i = (l.take i).map f ++ a :: l.drop (i + 1) := by
  have hi : i < l.length := by rw [List.getElem?_eq_some_iff] at h; exact h.1
  have ha : l[i] = a := by rw [List.getElem?_eq_some_iff] at h; exact h.2
  unfold midL
  rw [List.drop_eq_getElem_cons hi, ha]
theorem midL_set {α : Type} (f : α → α) {l : List α} {i : Nat} {a : α} (h : l[i]? = some a) (b : α) : (midL f l i).set i b = (l.take i).map f ++ b :: l.drop (i + 1) := by
  have hi : i < l.length := by rw [List.getElem?_eq_some_iff] at h; exact h.1
  rw [midL_drop f h, List.set_append_right _ _ (by simp; omega)]
  have : i - ((l.take i).map f).length = 0 := by simp; omega
  rw [this]; rfl
theorem midL_len {α : Type} (f : α → α) (l : List α) (i : Nat) : (midL f l i).length = l.length := by unfold midL; simp; omega
theorem midL_zero {α : Type} (f : α → α) (l : List α) : midL f l 0 = l := by simp [midL]
theorem midL_end {α : Type} (f : α → α) (l : List α) : midL f l l.length = l.map f := by simp [midL]
section
variable {h : List Call}
theorem H88b_eq (hl : h.length ≤ 40) (m : Int) : H88b Ar.std (eCalls h) m = some (eCalls (h.filter (fun c => decide (c.fr ≤ m)))) := by
  have e := pick_loop (h := h) (step := H88bL0 Ar.std (eCalls h) m) hl (fun c => decide (c.fr ≤ m)) (fun i c l hc hi hll => by
    have hap : ap Ar.std (eCalls l) [.agg [.int .i64 c.1, .int .i64 c.2.1, .int .i64 c.2.2.1, .int .i64 c.2.2.2.1, .int .i64 c.2.2.2.2.1, .int .i64 c.2.2.2.2.2]] = some (eCalls (l ++ [c])) := ap_enc1 rfl (by omega)
    simp only [H88bL0, H98, std_zlt, std_zle, len_enc, ltC hi, cond_true, gt_enc hc, bsome, hap, std_wrp, std_zadd, wrap1 hi (show h.length < 9223372036854775808 by omega), Call.fr]
    cases decide (c.2.2.2.2.1 ≤ m) <;> rfl) (fun l => by simp [H88bL0])
  simp only [H88b, e, bsome]
theorem H97L0_eq (hl : h.length < Lg) (m : Int) : iter (H97L0 Ar.std m (eCalls h)) (0, eCalls h) = some (eCalls (h.map (cutC m))) := by
  have key := iter_to (step := H97L0 Ar.std m (eCalls h)) h.length (fun i => ((i : Int), eCalls (midL (cutC m) h i))) (eCalls (midL (cutC m) h h.length)) (fun i hi => by
    have hc := List.getElem?_eq_getElem hi
    generalize h[i] = c at hc
    have e1 : ck (Ar.std.zle 0 (i : Int)) = some () := by simp [ck]
    have e2 : ck (Ar.std.zlt (i : Int) (Ar.std.len (eCalls h))) = some () := by rw [std_zlt, len_enc, ltC hi]; rfl
    have e3 : Ar.std.nat (Ar.std.zadd 0 (i : Int)) = i := by simp
    have e4 : gc Ar.std cCall (eCalls (midL (cutC m) h i)) i = some c := gc_enc (midL_get _ hc)
    have e5 : ∀ x : Call, gc Ar.std cCall (eCalls ((midL (cutC m) h i).set i x)) i = some x := fun x => gc_enc (by
      rw [List.getElem?_set]; simp [midL_len, hi])
    have e6 : Ar.std.zlt (i : Int) (Ar.std.len (eCalls h)) = true := by rw [std_zlt, len_enc, ltC hi]
    unfold H97L0
    dsimp only
    rw [e6, cond_true, e1, bsome, ck_true, bsome, e3, e4, bsome, std_zlt]
    cases hd : decide (m < c.to) with
    | false =>
      have hcut : cutC m c = c := by unfold cutC; rw [hd]; rfl
      have hm : midL (cutC m) h (i + 1) = midL (cutC m) h i := by rw [midL_step _ hc, midL_drop _ hc, hcut]
      rw [cond_false, bsome, std_wrp, std_zadd, wrap1 hi hl, hm]
    | true =>
      have hcut : cutC m c = (c.1, c.2.1, c.2.2.1, 0, c.2.2.2.2.1, 0) := by unfold cutC; rw [hd]; rfl
      rw [cond_true, bsome, setC, e5, bsome]
      dsimp only
      rw [setC, List.set_set, bsome, std_wrp, std_zadd, wrap1 hi hl, midL_set _ hc, midL_step _ hc, hcut])
    (by simp [H97L0])
  rw [midL_end] at key
  have h0 : midL (cutC m) h 0 = h := midL_zero _ _
  simp only [h0] at key
  exact key
theorem H97_eq (hl : h.length ≤ 40) (m : Int) : H97 Ar.std (eCalls h) m = some (eCalls (untH h m)) := by
  unfold H97 untH
  rw [H88b_eq hl, bsome]
  generalize hr : h.filter (fun c => decide (c.fr ≤ m)) = r
  have hrl : r.length ≤ 40 := by rw [← hr]; exact Nat.le_trans (List.length_filter_le _ _) hl
  cases h0 : Ar.std.zlt 0 (Ar.std.len (eCalls r)) with
  | false =>
    have : r = [] := by simp at h0; exact h0
    subst this
    rw [cond_false]
    have : iter (H97L1 Ar.std m (eCalls [])) 0 = some () := iter_inr rfl
    rw [this]; rfl
  | true =>
    rw [cond_true, scalCalls, ck_true, bsome, H97L0_eq (by show r.length < 9223372036854775808; omega), bsome, len_enc]
    rw [fzC _ _ (by simp), bsome]
theorem H45_eq (hl : h.length < Lg) (m : Int) : H45 Ar.std (eCalls h) m = some (eCalls (untR h m).1, (untR h m).2) := by
  simp only [H45, H85a, H24_eq h hl, bsome, untR, H96, H77_eq]
  cases hv : validH h with
  | false => rfl
  | true =>
    obtain ⟨h8, _⟩ := validH_ok hv
    simp only [cond_true, H97_eq (show h.length ≤ 40 by omega), bsome]
    cases btw 0 m 100 <;> rfl
theorem H34_self {l : List Call} (hl : l.length < Lg) : H34 Ar.std (eCalls l) (eCalls l) = some true := by
  rw [H34_eq l l hl, decide_eq_true rfl]
end
end Go.Am

set_option maxRecDepth 100000
set_option linter.unusedVariables false
set_option linter.unusedSimpArgs false
set_option linter.unusedSectionVars false
namespace Go.Am
open Go
theorem cut_not {m : Int} {c : Call} (h : ¬ m < c.to) : cutC m c = c := by unfold cutC; rw [decide_eq_false h]; rfl
theorem cut_yes {m : Int} {c : Call} (h : m < c.to) : cutC m c = (c.1, c.2.1, c.2.2.1, 0, c.2.2.2.2.1, 0) := by unfold cutC; rw [decide_eq_true h]; rfl
theorem cut_th (m : Int) (c : Call) : (cutC m c).th = c.th := by by_cases h : m < c.to; rw [cut_yes h]; rw [cut_not h]
theorem cut_ob (m : Int) (c : Call) : (cutC m c).ob = c.ob := by by_cases h : m < c.to; rw [cut_yes h]; rw [cut_not h]
theorem cut_op (m : Int) (c : Call) : (cutC m c).op = c.op := by by_cases h : m < c.to; rw [cut_yes h]; rw [cut_not h]
theorem cut_fr (m : Int) (c : Call) : (cutC m c).fr = c.fr := by by_cases h : m < c.to; rw [cut_yes h]; rw [cut_not h]
theorem cut_to (m : Int) (c : Call) : (cutC m c).to = c.to ∧ ¬ m < c.to ∨ (cutC m c).to = 0 ∧ m < c.to := by
  by_cases h : m < c.to
  · right; rw [cut_yes h]; exact ⟨rfl, h⟩
  · left; rw [cut_not h]; exact ⟨rfl, h⟩
theorem cut_ok {m : Int} {c : Call} (h : callOk c = true) : callOk (cutC m c) = true := by
  by_cases hm : m < c.to
  · rw [cut_yes hm]
    obtain ⟨h1, h2, h3, h4, h5, h6⟩ := (callOk_iff c).1 h
    exact (callOk_iff _).2 ⟨h1, h2, h3, ⟨Int.le_refl 0, by show (0 : Int) ≤ 9; omega⟩, h5, .inl ⟨rfl, rfl⟩⟩
  · rw [cut_not hm]; exact h
theorem meet_iff (c d : Call) : meet c d = true ↔ (c.fr = d.fr ∨ c.fr = d.to ∨ c.to = d.fr ∨ (c.to ≠ 0 ∧ c.to = d.to)) ∨ (c.th = d.th ∧ ¬ (c.to ≠ 0 ∧ c.to < d.fr) ∧ ¬ (d.to ≠ 0 ∧ d.to < c.fr)) := by
  simp only [meet, bef, Bool.or_eq_true, Bool.and_eq_true, decide_eq_true_eq, Bool.not_eq_true', Bool.and_eq_false_iff, decide_eq_false_iff_not, not_and]
  constructor
  · rintro (h | ⟨h1, h2, h3⟩)
    · exact .inl h
    · refine .inr ⟨h1, fun h => ?_, fun h => ?_⟩
      · rcases h2 with h2 | h2
        · exact absurd h h2
        · exact h2
      · rcases h3 with h3 | h3
        · exact absurd h h3
        · exact h3
  · rintro (h | ⟨h1, h2, h3⟩)
    · exact .inl h
    · refine .inr ⟨h1, ?_, ?_⟩
      · by_cases h : c.to ≠ 0
        · exact .inr (h2 h)
        · exact .inl h
      · by_cases h : d.to ≠ 0
        · exact .inr (h3 h)
        · exact .inl h
theorem meet_no {c d : Call} : meet c d = false ↔ ¬ ((c.fr = d.fr ∨ c.fr = d.to ∨ c.to = d.fr ∨ (c.to ≠ 0 ∧ c.to = d.to)) ∨ (c.th = d.th ∧ ¬ (c.to ≠ 0 ∧ c.to < d.fr) ∧ ¬ (d.to ≠ 0 ∧ d.to < c.fr))) := by
  rw [← meet_iff]; simp
theorem cut_meet {m : Int} {c d : Call} (hc : callOk c = true) (hd : callOk d = true) (hcm : c.fr ≤ m) (hdm : d.fr ≤ m) (h : meet c d = false) : meet (cutC m c) (cutC m d) = false := by
  rw [meet_no] at h ⊢
  have c1 := (callOk_iff c).1 hc
  have d1 := (callOk_iff d).1 hd
  rw [cut_fr, cut_fr, cut_th, cut_th]
  generalize c.th = cth at *
  generalize d.th = dth at *
  rcases cut_to m c with ⟨e, e'⟩ | ⟨e, e'⟩ <;> rcases cut_to m d with ⟨f, f'⟩ | ⟨f, f'⟩ <;> rw [e, f] <;> omega
theorem pairwise_map' {α β : Type} {R : β → β → Prop} {f : α → β} {l : List α} (h : l.Pairwise fun a b => R (f a) (f b)) : (l.map f).Pairwise R := by
  rw [List.pairwise_map]; exact h
theorem unt_valid {h : List Call} (hv : validH h = true) (m : Int) : validH (untH h m) = true := by
  obtain ⟨h8, hok, hpw⟩ := validH_pw.1 hv
  refine validH_pw.2 ⟨?_, ?_, ?_⟩
  · unfold untH; rw [List.length_map]; exact Nat.le_trans (List.length_filter_le _ _) h8
  · intro c hc
    obtain ⟨d, hd, rfl⟩ := List.mem_map.1 hc
    exact cut_ok (hok d (List.mem_filter.1 hd).1)
  · refine pairwise_map' ?_
    have := (hpw.sublist (List.filter_sublist (p := fun c => decide (c.fr ≤ m))))
    refine List.Pairwise.imp_of_mem ?_ this
    intro a b ha hb hab
    have ha := List.mem_filter.1 ha
    have hb := List.mem_filter.1 hb
    exact cut_meet (hok b hb.1) (hok a ha.1) (by simpa using hb.2) (by simpa using ha.2) hab
theorem cut_fit (l : List Spec) (m : Int) (c : Call) : fitC l (cutC m c) = fitC l c := by
  unfold fitC
  have h1 : (cutC m c).2.1 = c.2.1 := cut_ob m c
  have h2 : (cutC m c).2.2.1 = c.2.2.1 := cut_op m c
  simp only [Call.ob, Call.op, h1, h2]
theorem unt_for {S : List Spec} {h : List Call} (hf : forH S h = true) (m : Int) : forH S (untH h m) = true := by
  simp only [forH, Bool.and_eq_true, List.all_eq_true] at hf ⊢
  refine ⟨unt_valid hf.1 m, fun c hc => ?_⟩
  obtain ⟨d, hd, rfl⟩ := List.mem_map.1 hc
  rw [cut_fit]
  exact hf.2 d (List.mem_filter.1 hd).1
def upTo {α : Type} (p : α → Bool) : List α → List α
  | [] => []
  | c :: L => bif (c :: L).any p then c :: upTo p L else []
theorem upTo_sub {α : Type} (p : α → Bool) : ∀ L : List α, (upTo p L).Sublist L
  | [] => .slnil
  | c :: L => by
    unfold upTo
    cases (c :: L).any p with
    | true => exact (upTo_sub p L).cons_cons c
    | false => exact List.nil_sublist _
theorem upTo_mem {α : Type} (p : α → Bool) : ∀ (L : List α) (x : α), x ∈ L → p x = true → x ∈ upTo p L
  | c :: L, x, hx, hp => by
    unfold upTo
    have : (c :: L).any p = true := List.any_eq_true.2 ⟨x, hx, hp⟩
    rw [this, cond_true]
    rcases List.mem_cons.1 hx with rfl | hx
    · exact List.mem_cons_self
    · exact List.mem_cons_of_mem _ (upTo_mem p L x hx hp)
theorem upTo_pre {α : Type} (p : α → Bool) {R : α → α → Prop} : ∀ (L : List α), L.Pairwise R → ∀ x ∈ upTo p L, p x = true ∨ ∃ y ∈ L, p y = true ∧ R x y
  | [], _, x, hx => by cases hx
  | c :: L, hpw, x, hx => by
    unfold upTo at hx
    cases ha : (c :: L).any p with
    | false => rw [ha] at hx; cases hx
    | true =>
      rw [ha, cond_true] at hx
      rw [List.pairwise_cons] at hpw
      rcases List.mem_cons.1 hx with rfl | hx
      · obtain ⟨y, hy, hpy⟩ := List.any_eq_true.1 ha
        rcases List.mem_cons.1 hy with rfl | hy
        · exact .inl hpy
        · exact .inr ⟨y, List.mem_cons_of_mem _ hy, hpy, hpw.1 y hy⟩
      · rcases upTo_pre p L hpw.2 x hx with h | ⟨y, hy, h1, h2⟩
        · exact .inl h
        · exact .inr ⟨y, List.mem_cons_of_mem _ hy, h1, h2⟩
theorem upTo_alw (S : List Spec) (p : Call → Bool) : ∀ (L : List Call) (s : Int × Int), alw S L s = true → alw S (upTo p L) s = true
  | [], _, _ => rfl
  | c :: L, s, h => by
    unfold upTo
    simp only [alw, Bool.and_eq_true] at h
    cases (c :: L).any p with
    | false => rfl
    | true =>
      rw [cond_true]
      simp only [alw, Bool.and_eq_true]
      exact ⟨h.1, upTo_alw S p L _ h.2⟩
theorem cut_do (S : List Spec) (m : Int) (c : Call) (s : Int × Int) : doS S (cutC m c) s = doS S c s := by
  have h1 : (cutC m c).2.1 = c.2.1 := cut_ob m c
  have h2 : (cutC m c).2.2.1 = c.2.2.1 := cut_op m c
  simp only [doS, nowOf, spOf, Call.ob, Call.op, h1, h2]
theorem cut_okS (S : List Spec) (m : Int) (c : Call) (s : Int × Int) (h : okS S c s = true) : okS S (cutC m c) s = true := by
  by_cases hm : m < c.to
  · rw [cut_yes hm]; simp [okS]
  · rw [cut_not hm]; exact h
theorem cut_alw (S : List Spec) (m : Int) : ∀ (L : List Call) (s : Int × Int), alw S L s = true → alw S (L.map (cutC m)) s = true
  | [], _, _ => rfl
  | c :: L, s, h => by
    simp only [alw, Bool.and_eq_true] at h
    simp only [List.map_cons, alw, Bool.and_eq_true, cut_do]
    exact ⟨cut_okS S m c s h.1, cut_alw S m L _ h.2⟩
theorem fr_ne : ∀ {h : List Call}, h.Pairwise (fun d c => meet c d = false) → ∀ a ∈ h, ∀ b ∈ h, a.fr = b.fr → a = b
  | [], _, a, ha, _, _, _ => by cases ha
  | c :: h, hpw, a, ha, b, hb, e => by
    rw [List.pairwise_cons] at hpw
    rcases List.mem_cons.1 ha with rfl | ha' <;> rcases List.mem_cons.1 hb with rfl | hb'
    · rfl
    · exact absurd (Or.inl (Or.inl e.symm)) (meet_no.1 (hpw.1 b hb'))
    · exact absurd (Or.inl (Or.inl e)) (meet_no.1 (hpw.1 a ha'))
    · exact fr_ne hpw.2 a ha' b hb' e
theorem nodup_map {α β : Type} {f : α → β} : ∀ {l : List α}, l.Nodup → (∀ a ∈ l, ∀ b ∈ l, f a = f b → a = b) → (l.map f).Nodup
  | [], _, _ => .nil
  | a :: l, hn, hi => by
    rw [List.nodup_cons] at hn
    rw [List.map_cons, List.nodup_cons]
    refine ⟨fun hm => ?_, nodup_map hn.2 (fun x hx y hy => hi x (List.mem_cons_of_mem _ hx) y (List.mem_cons_of_mem _ hy))⟩
    obtain ⟨b, hb, e⟩ := List.mem_map.1 hm
    have := hi b (List.mem_cons_of_mem _ hb) a List.mem_cons_self e
    exact hn.1 (this ▸ hb)
theorem unt_lin {S : List Spec} {h L : List Call} (hv : validH h = true) (hL : LinC S h L) (m : Int) : ∃ L', LinC S (untH h m) L' := by
  obtain ⟨_, hok, hpw⟩ := validH_pw.1 hv
  have hsub := upTo_sub (fun c : Call => decide (c.to ≠ 0) && decide (c.to ≤ m)) L
  generalize hU : upTo (fun c : Call => decide (c.to ≠ 0) && decide (c.to ≤ m)) L = U at hsub
  have hfr : ∀ c ∈ U, c.fr ≤ m := by
    intro c hc
    have hcL := hsub.subset hc
    have c1 := (callOk_iff c).1 (hok c (hL.sub c hcL))
    rw [← hU] at hc
    rcases upTo_pre _ L hL.keep c hc with h1 | ⟨y, hy, h1, h2⟩
    · simp only [Bool.and_eq_true, decide_eq_true_eq] at h1; omega
    · simp only [Bool.and_eq_true, decide_eq_true_eq] at h1
      simp only [bef, Bool.and_eq_false_iff, decide_eq_false_iff_not] at h2
      rcases h2 with h2 | h2
      · exact absurd h1.1 h2
      · omega
  refine ⟨U.map (cutC m), nodup_map (hL.nd.sublist hsub) (fun a ha b hb e => ?_), fun c hc => ?_, fun c hc hto => ?_, ?_, ?_⟩
  · refine fr_ne hpw a (hL.sub a (hsub.subset ha)) b (hL.sub b (hsub.subset hb)) ?_
    rw [← cut_fr m a, ← cut_fr m b, e]
  · obtain ⟨d, hd, rfl⟩ := List.mem_map.1 hc
    exact List.mem_map_of_mem (List.mem_filter.2 ⟨hL.sub d (hsub.subset hd), decide_eq_true (hfr d hd)⟩)
  · obtain ⟨d, hd, rfl⟩ := List.mem_map.1 hc
    refine List.mem_map_of_mem ?_
    have hd := List.mem_filter.1 hd
    rcases cut_to m d with ⟨e, e'⟩ | ⟨e, _⟩
    · rw [e] at hto
      rw [← hU]
      refine upTo_mem _ L d (hL.full d hd.1 hto) ?_
      simp only [Bool.and_eq_true, decide_eq_true_eq]
      exact ⟨hto, by omega⟩
    · exact absurd e hto
  · refine pairwise_map' ((hL.keep.sublist hsub).imp ?_)
    intro a b hab
    simp only [bef, Bool.and_eq_false_iff, decide_eq_false_iff_not] at hab ⊢
    rw [cut_fr]
    rcases cut_to m b with ⟨e, _⟩ | ⟨e, _⟩
    · rw [e]; exact hab
    · rw [e]; exact .inl (by simp)
  · exact cut_alw S m U (0, 0) (by rw [← hU]; exact upTo_alw S _ L (0, 0) hL.allow)
theorem cut_cut {m n : Int} (hmn : n ≤ m) (c : Call) : cutC n (cutC m c) = cutC n c ∨ c.to ≠ 0 ∧ m < c.to ∧ c.to ≤ n := by
  by_cases h : m < c.to
  · rw [cut_yes h]
    left
    by_cases hn : n < c.to
    · rw [cut_yes hn]
      by_cases h0 : n < 0
      · rw [cut_yes (by exact h0)]
      · rw [cut_not (by exact h0)]
    · omega
  · rw [cut_not h]; exact .inl rfl
theorem unt_unt {m n : Int} (hmn : n ≤ m) (h : List Call) : untH (untH h m) n = untH h n := by
  unfold untH
  induction h with
  | nil => rfl
  | cons c h ih =>
    by_cases h1 : c.fr ≤ m
    · rw [List.filter_cons_of_pos (by simpa using h1), List.map_cons]
      by_cases h2 : c.fr ≤ n
      · rw [List.filter_cons_of_pos (by rw [cut_fr]; simpa using h2), List.filter_cons_of_pos (by simpa using h2), List.map_cons, List.map_cons, ih]
        rcases cut_cut hmn c with e | e
        · rw [e]
        · omega
      · rw [List.filter_cons_of_neg (by rw [cut_fr]; simpa using h2), List.filter_cons_of_neg (by simpa using h2), ih]
    · rw [List.filter_cons_of_neg (by simpa using h1), List.filter_cons_of_neg (by simp; omega), ih]
theorem unt_all {h : List Call} (hok : ∀ c ∈ h, callOk c = true) : untH h 100 = h := by
  unfold untH
  induction h with
  | nil => rfl
  | cons c h ih =>
    have c1 := (callOk_iff c).1 (hok c (by simp))
    rw [List.filter_cons_of_pos (by simp; omega), List.map_cons, ih (fun d hd => hok d (by simp [hd])), cut_not (by omega)]
theorem unt_len (h : List Call) (m : Int) : (untH h m).length ≤ h.length := by
  unfold untH; rw [List.length_map]; exact List.length_filter_le _ _
theorem mod101 {x : Int} (h : 0 ≤ x ∧ x < 256) : Ar.std.rem (Ar.std.wrp .i64 x) 101 = x % 101 := by
  rw [std_wrp, i64w x (by omega) (by omega), std_rem, Int.tmod_eq_emod_of_nonneg h.1]
theorem H11_ok (S : List Spec) (h : List Call) (hs : SpecsOk S) (hl : h.length < Lg) (x y : Int) (hx : 0 ≤ x ∧ x < 256) (hy : 0 ≤ y ∧ y < 256) : H11 Ar.std (eSpecs S) (eCalls h) x y = some true := by
  unfold H11
  rw [H17_eq S hs, H18_eq, H39_eq S hs hl, H19_eq]
  cases hfor : areS S && forH S h with
  | false => cases largeS S <;> cases decide (40 < (h.length : Int)) <;> rfl
  | true =>
    rw [Bool.and_eq_true] at hfor
    obtain ⟨ha, hf⟩ := hfor
    obtain ⟨h8, hok2⟩ := forH_in ha hf
    have hok : ∀ c ∈ h, callOk c = true := fun c hc => (hok2 c hc).1
    have hv : validH h = true := by simp only [forH, Bool.and_eq_true] at hf; exact hf.1
    obtain ⟨p, hp⟩ : ∃ p, Ar.std.zmax (Ar.std.rem (Ar.std.wrp .i64 x) 101) (Ar.std.rem (Ar.std.wrp .i64 y) 101) = p := ⟨_, rfl⟩
    obtain ⟨q, hq⟩ : ∃ q, Ar.std.zmin (Ar.std.rem (Ar.std.wrp .i64 x) 101) (Ar.std.rem (Ar.std.wrp .i64 y) 101) = q := ⟨_, rfl⟩
    have hpq : 0 ≤ q ∧ q ≤ p ∧ p ≤ 100 := by
      rw [mod101 hx, mod101 hy] at hp hq
      rw [std_zmax] at hp
      rw [std_zmin] at hq
      have x1 := Int.emod_nonneg x (by decide : (101 : Int) ≠ 0)
      have x2 := Int.emod_lt_of_pos x (by decide : (0 : Int) < 101)
      have y1 := Int.emod_nonneg y (by decide : (101 : Int) ≠ 0)
      have y2 := Int.emod_lt_of_pos y (by decide : (0 : Int) < 101)
      split at hp <;> split at hq <;> omega
    have bp : btw 0 p 100 = true := by rw [btw_true]; omega
    have bq : btw 0 q 100 = true := by rw [btw_true]; omega
    have b100 : btw 0 100 100 = true := by rw [btw_true]; omega
    have lp : (untH h p).length < Lg := Nat.lt_of_le_of_lt (unt_len h p) hl
    have e1 : H45 Ar.std (eCalls h) p = some (eCalls (untH h p), 0) := by rw [H45_eq hl]; simp only [untR, hv, bp, cond_true]
    have e2 : H45 Ar.std (eCalls h) q = some (eCalls (untH h q), 0) := by rw [H45_eq hl]; simp only [untR, hv, bq, cond_true]
    have e3 : H45 Ar.std (eCalls (untH h p)) q = some (eCalls (untH h q), 0) := by rw [H45_eq lp]; simp only [untR, unt_valid hv p, bq, cond_true, unt_unt hpq.2.1]
    have e4 : H45 Ar.std (eCalls h) 100 = some (eCalls h, 0) := by rw [H45_eq hl]; simp only [untR, hv, b100, cond_true, unt_all hok]
    have g1 := lin_of hs ha hf
    have g2 := lin_of hs ha (unt_for hf p)
    have k1 := H34_self (Nat.lt_of_le_of_lt (unt_len h q) hl)
    have k2 := H34_self hl
    have n101 : nk (Ar.std.zeq 101 0) = some () := rfl
    have hlin : (!(ords0 S h).isEmpty) = true → (!(ords0 S (untH h p)).isEmpty) = true := by
      simp only [Bool.not_eq_true', List.isEmpty_eq_false_iff]
      intro hne
      obtain ⟨L, hL⟩ := (lin_iff hv).1 hne
      exact (lin_iff (unt_valid hv p)).2 (unt_lin hv hL p)
    have z0 : Ar.std.zeq 0 0 = true := rfl
    rw [bsome]
    cases largeS S with
    | true => rfl
    | false =>
      rw [cond_false, bsome]
      cases decide (40 < (h.length : Int)) with
      | true => rfl
      | false =>
        rw [cond_false, bsome, Bool.not_true, bsome, cond_false, n101, bsome, bsome, hp, hq, e1, bsome]
        dsimp only
        rw [e2, bsome]
        dsimp only
        rw [e3, bsome]
        dsimp only
        rw [z0, cond_true, cond_true, cond_true, k1, bsome, Bool.not_true, bsome, cond_false, g1, bsome]
        dsimp only
        rw [g2, bsome]
        dsimp only
        rw [e4, bsome]
        dsimp only
        rw [z0, cond_true, cond_true, cond_true, k2, bsome, cond_true]
        cases hb : (!(ords0 S h).isEmpty) with
        | false => rfl
        | true => rw [hlin hb]; rfl
end Go.Am
