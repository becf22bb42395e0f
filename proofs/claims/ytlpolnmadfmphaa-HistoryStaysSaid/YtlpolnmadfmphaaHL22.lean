/- Own text: HL22. -/
import Derived.Test.YtlpolnmadfmphaaHL3
import Derived.Test.YtlpolnmadfmphaaAmBit
set_option maxRecDepth 100000
set_option linter.unusedVariables false
set_option linter.unusedSimpArgs false
namespace Go.Am
open Go
def nx (t : Tab) (now op : Int) : Int := (t.getD now.toNat []).getD op.toNat 0
def spOf (S : List Spec) (c : Call) : Spec := S.getD c.ob.toNat (0, 0, [], [])
def nowOf (c : Call) (s : Int × Int) : Int := bif decide (c.ob = 0) then s.1 else s.2
def doS (S : List Spec) (c : Call) (s : Int × Int) : Int × Int := bif decide (c.ob = 0) then (nx (spOf S c).2.2.1 (nowOf c s) c.op, s.2) else (s.1, nx (spOf S c).2.2.1 (nowOf c s) c.op)
def okS (S : List Spec) (c : Call) (s : Int × Int) : Bool := decide (c.to = 0) || decide (nx (spOf S c).2.2.2 (nowOf c s) c.op = c.sa)
def stOk (S : List Spec) (s : Int × Int) : Prop := (∀ x, S[0]? = some x → 0 ≤ s.1 ∧ s.1 < x.1) ∧ ∀ x, S[1]? = some x → 0 ≤ s.2 ∧ s.2 < x.1
def callIn (S : List Spec) (c : Call) : Prop := (c.ob = 0 ∨ c.ob = 1) ∧ ∃ x, S[c.ob.toNat]? = some x ∧ specOk x = true ∧ 0 ≤ c.op ∧ c.op < x.2.1
theorem tab_get {st ops lim : Int} {t : Tab} (h : tabOk st ops lim t = true) {now op : Int} (h1 : 0 ≤ now) (h2 : now < st) (h3 : 0 ≤ op) (h4 : op < ops) :
    ∃ r, t[now.toNat]? = some r ∧ r[op.toNat]? = some (nx t now op) ∧ 0 ≤ nx t now op ∧ nx t now op ≤ lim := by
  simp only [tabOk, Bool.and_eq_true, decide_eq_true_eq, List.all_eq_true] at h
  obtain ⟨hl, hr⟩ := h
  have hlt : now.toNat < t.length := by omega
  have hrow := hr _ (List.getElem_mem hlt)
  simp only [rowOk, Bool.and_eq_true, decide_eq_true_eq, List.all_eq_true] at hrow
  have hlt2 : op.toNat < t[now.toNat].length := by omega
  have hn := hrow.2 _ (List.getElem_mem hlt2)
  rw [btw_true] at hn
  have e : nx t now op = t[now.toNat][op.toNat] := by
    simp only [nx, List.getD_eq_getElem?_getD, List.getElem?_eq_getElem hlt, Option.getD_some, List.getElem?_eq_getElem hlt2]
  refine ⟨_, List.getElem?_eq_getElem hlt, ?_, ?_⟩
  · rw [e]; exact List.getElem?_eq_getElem hlt2
  · rw [e]; exact hn
theorem specOk_iff (x : Spec) : specOk x = true ↔ (1 ≤ x.1 ∧ x.1 ≤ 8) ∧ (1 ≤ x.2.1 ∧ x.2.1 ≤ 4) ∧ tabOk x.1 x.2.1 (x.1 - 1) x.2.2.1 = true ∧ tabOk x.1 x.2.1 5 x.2.2.2 = true := by
  simp only [specOk, Bool.and_eq_true, btw_true]
theorem callIn_now {S : List Spec} {c : Call} (hc : callIn S c) {s : Int × Int} (hs : stOk S s) : ∃ x, S[c.ob.toNat]? = some x ∧ spOf S c = x ∧ specOk x = true ∧ 0 ≤ nowOf c s ∧ nowOf c s < x.1 ∧ 0 ≤ c.op ∧ c.op < x.2.1 := by
  obtain ⟨hob, x, hx, hsx, h1, h2⟩ := hc
  refine ⟨x, hx, by simp [spOf, List.getD_eq_getElem?_getD, hx], hsx, ?_⟩
  rcases hob with h | h
  · have q := hs.1 x (by rw [h] at hx; exact hx)
    simp only [nowOf, h, decide_true, cond_true]; exact ⟨q.1, q.2, h1, h2⟩
  · have q := hs.2 x (by rw [h] at hx; exact hx)
    have hz : decide ((1 : Int) = 0) = false := rfl
    simp only [nowOf, h, hz, cond_false]; exact ⟨q.1, q.2, h1, h2⟩
theorem doS_ok {S : List Spec} {c : Call} (hc : callIn S c) {s : Int × Int} (hs : stOk S s) : stOk S (doS S c s) := by
  obtain ⟨x, hx, e, hsx, h1, h2, h3, h4⟩ := callIn_now hc hs
  obtain ⟨_, _, t1, _⟩ := (specOk_iff x).1 hsx
  obtain ⟨r, _, _, g3, g4⟩ := tab_get t1 h1 h2 h3 h4
  unfold doS
  rw [e]
  rcases hc.1 with h | h
  · simp only [h, decide_true, cond_true]
    refine ⟨fun y hy => ?_, hs.2⟩
    rw [h] at hx
    have : y = x := by have := hx.symm.trans (show S[(0 : Int).toNat]? = some y from hy); exact (Option.some.inj this).symm
    subst this; exact ⟨g3, by omega⟩
  · have hz : decide ((1 : Int) = 0) = false := rfl
    simp only [h, hz, cond_false]
    refine ⟨hs.1, fun y hy => ?_⟩
    rw [h] at hx
    have : y = x := by have := hx.symm.trans (show S[(1 : Int).toNat]? = some y from hy); exact (Option.some.inj this).symm
    subst this; exact ⟨g3, by omega⟩
theorem H78a_eq {S : List Spec} {c : Call} (hc : callIn S c) {s : Int × Int} (hs : stOk S s) : H78a Ar.std s.1 s.2 (eSpecs S) c.1 c.2.1 c.2.2.1 c.2.2.2.1 c.2.2.2.2.1 c.2.2.2.2.2 = some ((doS S c s).1, (doS S c s).2, okS S c s) := by
  obtain ⟨x, hx, e, hsx, h1, h2, h3, h4⟩ := callIn_now hc hs
  obtain ⟨_, _, t1, t2⟩ := (specOk_iff x).1 hsx
  obtain ⟨r, g1, g2, g3, g4⟩ := tab_get t1 h1 h2 h3 h4
  obtain ⟨q, k1, k2, k3, k4⟩ := tab_get t2 h1 h2 h3 h4
  have hob : 0 ≤ c.2.1 := by rcases hc.1 with h | h <;> simp only [Call.ob] at h <;> omega
  have e1 := gt_eSpecsI (l := S) hob hx
  have e2 := gt_eTabI h1 g1
  have e3 := gt_encI (c := cI .i64) (l := r) h3 g2
  have e4 := gt_eTabI h1 k1
  have e5 := gt_encI (c := cI .i64) (l := q) h3 k2
  simp only [H78a, e1, bsome, std_zeq]
  rcases hc.1 with h | h
  · simp only [Call.ob] at h
    simp only [nowOf, Call.ob, h, decide_true, cond_true] at e2 e3 e4 e5
    simp only [h, decide_true, cond_true, bsome, e2, e3, e4, e5, cond_some, doS, okS, Call.ob, e, nowOf]
    cases decide (c.2.2.2.2.2 = 0) <;> simp
  · simp only [Call.ob] at h
    have hz : decide ((1 : Int) = 0) = false := rfl
    simp only [nowOf, Call.ob, h, hz, cond_false] at e2 e3 e4 e5
    simp only [h, hz, decide_true, cond_true, cond_false, bsome, e2, e3, e4, e5, cond_some, doS, okS, Call.ob, e, nowOf]
    cases decide (c.2.2.2.2.2 = 0) <;> simp
theorem forH_in {S : List Spec} {h : List Call} (ha : areS S = true) (hf : forH S h = true) : h.length ≤ 8 ∧ ∀ c ∈ h, callOk c = true ∧ callIn S c := by
  simp only [forH, Bool.and_eq_true, List.all_eq_true] at hf
  simp only [areS, Bool.and_eq_true, btw_true, List.all_eq_true] at ha
  obtain ⟨h1, h2⟩ := validH_ok hf.1
  refine ⟨h1, fun c hc => ⟨h2 c hc, ?_⟩⟩
  have hcc := (callOk_iff c).1 (h2 c hc)
  refine ⟨by omega, ?_⟩
  have := hf.2 c hc
  unfold fitC at this
  cases hx : S[c.ob.toNat]? with
  | none => rw [hx] at this; cases this
  | some x =>
    rw [hx] at this
    exact ⟨x, rfl, ha.2 x (List.mem_of_getElem? hx), hcc.2.2.1.1, by simpa using this⟩
theorem stOk_zero {S : List Spec} (ha : areS S = true) : stOk S (0, 0) := by
  simp only [areS, Bool.and_eq_true, btw_true, List.all_eq_true] at ha
  constructor <;> intro x hx <;> have := ((specOk_iff x).1 (ha.2 x (List.mem_of_getElem? hx))).1 <;> (refine ⟨by decide, ?_⟩) <;> show (0 : Int) < x.1 <;> omega
section
variable (S : List Spec) (h : List Call) (must : Call → Call → Bool)
def endsM (m : Nat) : Bool := !(List.range h.length).any fun i => (h[i]?.map fun c => decide (0 < c.to) && !m.testBit i).getD false
def freeM (m i : Nat) (c : Call) : Bool := !m.testBit i && (List.range h.length).all fun k => m.testBit k || (h[k]?.map fun d => !must d c).getD true
def nextM (m : Nat) (s : Int × Int) (i : Nat) : Option (Nat × Int × Int) := h[i]?.bind fun c => bif freeM h must m i c && okS S c s then some (ins m i, doS S c s) else none
def dfs : Nat → Nat → Int × Int → List (List Nat)
  | 0, m, s => bif endsM h m then [[]] else []
  | f + 1, m, s => (bif endsM h m then [[]] else []) ++ (List.range h.length).flatMap fun i => ((nextM S h must m s i).map fun p => (dfs f p.1 p.2).map (i :: ·)).getD []
def room (m : Nat) : Nat := (List.range h.length).countP fun i => !m.testBit i
def ords (m : Nat) (s : Int × Int) : List (List Nat) := dfs S h must (room h m) m s
end
theorem countP_lt' {p p' : Nat → Bool} {i : Nat} {l : List Nat} (hn : l.Nodup) (hi : i ∈ l) (hp : p i = true) (hp' : p' i = false) (hne : ∀ k, k ≠ i → p' k = p k) : l.countP p' + 1 = l.countP p := by
  induction l with
  | nil => simp at hi
  | cons k r ih =>
    simp only [List.nodup_cons] at hn
    simp only [List.countP_cons]
    by_cases hk : k = i
    · subst hk
      have : r.countP p' = r.countP p := List.countP_congr fun q hq => by rw [hne q (by rintro rfl; exact hn.1 hq)]
      simp [hp, hp', this]
    · have hir : i ∈ r := by rcases List.mem_cons.1 hi with h | h; exact absurd h.symm hk; exact h
      have := ih hn.2 hir
      rw [hne k hk]; omega
theorem room_ins {h : List Call} {m i : Nat} (hi : i < h.length) (hm : m.testBit i = false) : room h (ins m i) + 1 = room h m := by
  refine countP_lt' List.nodup_range (List.mem_range.2 hi) (by simp [hm]) (by simp [ins_test]) fun k hk => ?_
  have : ¬ i = k := fun e => hk e.symm
  simp [ins_test, this]
theorem nextM_some {S : List Spec} {h : List Call} {must : Call → Call → Bool} {m : Nat} {s : Int × Int} {i : Nat} {p : Nat × Int × Int} (hp : nextM S h must m s i = some p) :
    ∃ c, h[i]? = some c ∧ i < h.length ∧ m.testBit i = false ∧ freeM h must m i c = true ∧ okS S c s = true ∧ p = (ins m i, doS S c s) := by
  unfold nextM at hp
  cases hc : h[i]? with
  | none => rw [hc] at hp; cases hp
  | some c =>
    rw [hc] at hp
    simp only [Option.bind_some] at hp
    cases hf : freeM h must m i c <;> cases ho : okS S c s <;> simp [hf, ho] at hp
    refine ⟨c, rfl, (List.getElem?_eq_some_iff.1 hc).1, ?_, hf, ho, hp.symm⟩
    simp only [freeM, Bool.and_eq_true] at hf
    simpa using hf.1
theorem ords_eq (S : List Spec) (h : List Call) (must : Call → Call → Bool) (m : Nat) (s : Int × Int) :
    ords S h must m s = (bif endsM h m then [[]] else []) ++ (List.range h.length).flatMap fun i => ((nextM S h must m s i).map fun p => (ords S h must p.1 p.2).map (i :: ·)).getD [] := by
  have hstep : ∀ i, ((nextM S h must m s i).map fun p => (ords S h must p.1 p.2).map (i :: ·)) = (nextM S h must m s i).map fun p => (dfs S h must (room h m - 1) p.1 p.2).map (i :: ·) := by
    intro i
    cases hn : nextM S h must m s i with
    | none => rfl
    | some p =>
      obtain ⟨c, hc, hi, ht, _, _, rfl⟩ := nextM_some hn
      have := room_ins hi ht
      simp only [Option.map_some, ords]
      rw [show room h (ins m i) = room h m - 1 by omega]
  unfold ords at hstep ⊢
  cases hr : room h m with
  | zero =>
    have : ∀ i ∈ List.range h.length, ((nextM S h must m s i).map fun p => (dfs S h must (room h p.1) p.1 p.2).map (i :: ·)).getD [] = [] := by
      intro i hi
      cases hn : nextM S h must m s i with
      | none => rfl
      | some p =>
        obtain ⟨c, hc, hi, ht, _, _, rfl⟩ := nextM_some hn
        have := room_ins hi ht
        omega
    rw [flatMap_cong this]
    simp [dfs]
  | succ f =>
    rw [hr] at hstep
    simp only [Nat.add_sub_cancel] at hstep
    simp only [dfs, hstep]
end Go.Am

set_option maxRecDepth 100000
set_option linter.unusedVariables false
set_option linter.unusedSimpArgs false
namespace Go.Am
open Go
theorem H124a_eq {m i : Nat} (hm : m < 256) (hi : i ≤ 8) : H124a Ar.std (m : Int) (i : Int) = some (m.testBit i) := by
  have h0 : decide ((i : Int) < 0) = false := by simp
  simp only [H124a, std_zlt, h0, nk_false, bsome, std_zeq, std_bits, std_shr, has_u8 m i hm hi]
def keyP (m : Nat) (s : Int × Int) : D := .agg [.int .u8 m, .int .i64 s.1, .int .i64 s.2]
theorem keyP_inj {m m' : Nat} {s s' : Int × Int} (h : keyP m s = keyP m' s') : m = m' ∧ s = s' := by
  simp only [keyP, D.agg.injEq, List.cons.injEq, D.int.injEq, true_and, and_true] at h
  exact ⟨by omega, Prod.ext h.2.1 h.2.2⟩
def GoodM (S : List Spec) (h : List Call) (must : Call → Call → Bool) (mp : List (D × D)) : Prop := ∀ (m : Nat) (s : Int × Int) (v : D), Am.mget mp (keyP m s) = some v → v = .int .i64 ((ords S h must m s).length : Int)
theorem GoodM.nil (S : List Spec) (h : List Call) (must : Call → Call → Bool) : GoodM S h must [] := fun m s v hv => by simp [Am.mget] at hv
theorem GoodM.put {S : List Spec} {h : List Call} {must : Call → Call → Bool} {mp : List (D × D)} (hg : GoodM S h must mp) (m : Nat) (s : Int × Int) : GoodM S h must (Am.mput mp (keyP m s) (.int .i64 ((ords S h must m s).length : Int))) := by
  intro m' s' v hv
  rw [mget_mput] at hv
  split at hv
  · rename_i e
    obtain ⟨rfl, rfl⟩ := keyP_inj e
    exact (Option.some.inj hv).symm
  · exact hg m' s' v hv
def contr (S : List Spec) (h : List Call) (must : Call → Call → Bool) (m : Nat) (s : Int × Int) (i : Nat) : Nat := ((nextM S h must m s i).map fun p => (ords S h must p.1 p.2).length).getD 0
theorem ords_len (S : List Spec) (h : List Call) (must : Call → Call → Bool) (m : Nat) (s : Int × Int) : (ords S h must m s).length = (bif endsM h m then 1 else 0) + ((List.range h.length).map (contr S h must m s)).sum := by
  rw [ords_eq, List.length_append, List.length_flatMap]
  congr 1
  · cases endsM h m <;> rfl
  · congr 1
    refine List.map_congr_left fun i _ => ?_
    unfold contr
    cases nextM S h must m s i <;> simp
theorem sum_le {f : Nat → Nat} {n : Nat} : ∀ {i : Nat}, i ≤ n → ((List.range i).map f).sum ≤ ((List.range n).map f).sum := by
  intro i hi
  obtain ⟨k, rfl⟩ : ∃ k, n = i + k := ⟨n - i, by omega⟩
  rw [List.range_add, List.map_append, List.sum_append]
  omega
theorem dfs_len (S : List Spec) (h : List Call) (must : Call → Call → Bool) (hl : h.length ≤ 8) : ∀ (f m : Nat) (s : Int × Int), (dfs S h must f m s).length ≤ 9 ^ (f + 1) := by
  intro f
  induction f with
  | zero => intro m s; simp only [dfs]; cases endsM h m <;> simp
  | succ f ih =>
    intro m s
    have hs : ∀ l : List Nat, ((l.flatMap fun i => ((nextM S h must m s i).map fun p => (dfs S h must f p.1 p.2).map (i :: ·)).getD [])).length ≤ l.length * 9 ^ (f + 1) := by
      intro l
      induction l with
      | nil => simp
      | cons i l ihl =>
        rw [List.flatMap_cons, List.length_append, List.length_cons, Nat.succ_mul]
        have : (((nextM S h must m s i).map fun p => (dfs S h must f p.1 p.2).map (i :: ·)).getD []).length ≤ 9 ^ (f + 1) := by
          cases nextM S h must m s i with
          | none => simp
          | some p => simpa using ih p.1 p.2
        omega
    have h1 := hs (List.range h.length)
    simp only [dfs, List.length_append]
    have h2 : (bif endsM h m then [[]] else [] : List (List Nat)).length ≤ 1 := by cases endsM h m <;> simp
    have h3 : (List.range h.length).length * 9 ^ (f + 1) ≤ 8 * 9 ^ (f + 1) := Nat.mul_le_mul_right _ (by simpa using hl)
    have h4 : 9 ^ (f + 1 + 1) = 9 * 9 ^ (f + 1) := by rw [Nat.pow_succ]; omega
    have h5 : 1 ≤ 9 ^ (f + 1) := Nat.one_le_pow _ _ (by decide)
    omega
theorem ords_lt (S : List Spec) (h : List Call) (must : Call → Call → Bool) (hl : h.length ≤ 8) (m : Nat) (s : Int × Int) : (ords S h must m s).length < 1000000000 := by
  have h1 := dfs_len S h must hl (room h m) m s
  have h2 : room h m ≤ 8 := by
    have := List.countP_le_length (p := fun i => !m.testBit i) (l := List.range h.length)
    unfold room; rw [List.length_range] at this; omega
  have h3 : 9 ^ (room h m + 1) ≤ 9 ^ 9 := Nat.pow_le_pow_right (by decide) (by omega)
  have h4 : (9 : Nat) ^ 9 = 387420489 := by decide
  unfold ords; omega
def way (S : List Spec) (h : List Call) (must : Call → Call → Bool) (m : Nat) (s : Int × Int) : List Nat := ((ords S h must m s).head?).getD []
section
variable {S : List Spec} {h : List Call}
theorem H115a_eq (hl : h.length ≤ 8) {m : Nat} (hm : m < 256) (s1 s2 : Int) (mp : List (D × D)) (x : List D) : H115a Ar.std (m : Int) s1 s2 mp x (eCalls h) = some (endsM h m) := by
  have e : iter (H115aL0 Ar.std (m : Int) (eCalls h)) 0 = some (bif (List.range h.length).any (fun i => (h[i]?.map fun c => decide (0 < c.to) && !m.testBit i).getD false) then .inr () else .inl ()) := by
    refine iter_rng h.length _ _ _ (fun i hi => ?_) ?_
    · have hc := List.getElem?_eq_getElem hi
      generalize h[i] = c at hc
      simp only [H115aL0, std_zlt, len_enc, ltC hi, cond_true, gt_enc hc, bsome, H124a_eq hm (by omega : i ≤ 8), std_wrp, std_zadd, wrap1 hi (by omega), hc, Option.map_some, Option.getD_some, Call.to]
      cases decide (0 < c.2.2.2.2.2) <;> cases m.testBit i <;> rfl
    · simp [H115aL0]
  simp only [H115a, e, bsome, endsM]
  cases (List.range h.length).any _ <;> rfl
theorem H125aL0_eq (hl : h.length ≤ 8) (hok : ∀ c ∈ h, callOk c = true) {m : Nat} (hm : m < 256) {i : Nat} {c : Call} (hi : i ≤ 8) :
    iter (H125aL0 Ar.std (eCalls h) (m : Int) c.1 c.2.1 c.2.2.1 c.2.2.2.1 c.2.2.2.2.1 c.2.2.2.2.2) (!m.testBit i, 0) = some (freeM h bef m i c) := by
  have := iter_fold (step := H125aL0 Ar.std (eCalls h) (m : Int) c.1 c.2.1 c.2.2.1 c.2.2.2.1 c.2.2.2.2.1 c.2.2.2.2.2) (List.range h.length) (fun (s : Bool) k => (s, (k : Int))) (fun s k => s && (m.testBit k || (h[k]?.map fun d => !bef d c).getD true)) id
    (fun k j s hj hk => by
      have hkj : k = j := by rw [List.getElem?_range (by simpa using hk)] at hj; exact Option.some.inj hj
      subst hkj
      have hk' : k < h.length := by simpa using hk
      have hd := List.getElem?_eq_getElem hk'
      have hdm := List.getElem_mem hk'
      generalize h[k] = d at hd hdm
      have hto : 0 ≤ d.to := by have := (callOk_iff d).1 (hok d hdm); omega
      simp only [H125aL0, std_zlt, len_enc, ltC hk', cond_true, gt_enc hd, bsome, H124a_eq hm (by omega : k ≤ 8), H66_eq d c hto, std_wrp, std_zadd, wrap1 hk' (by omega), hd, Option.map_some, Option.getD_some]
      cases s <;> cases m.testBit k <;> cases bef d c <;> rfl)
    (fun s => by simp [H125aL0]) (!m.testBit i)
  rw [show ((!m.testBit i, 0) : Bool × Int) = (!m.testBit i, ((0 : Nat) : Int)) from rfl, this, foldl_and]
  rfl
theorem H74_ok (hl : h.length ≤ 8) (hok : ∀ c ∈ h, callOk c = true ∧ callIn S c) : ∀ (n m : Nat) (s : Int × Int) (mp : List (D × D)), room h m < n → m < 256 → stOk S s → GoodM S h bef mp →
    ∃ mp', GoodM S h bef mp' ∧ H74R Ar.std n (m : Int) s.1 s.2 mp (eSpecs S) (eCalls h) = some (((ords S h bef m s).length : Int), mp') := by
  intro n
  induction n with
  | zero => intro m s mp hr; omega
  | succ n ih =>
    intro m s mp hr hm hs hg
    show ∃ mp', GoodM S h bef mp' ∧ H74B Ar.std (H74R Ar.std n) (m : Int) s.1 s.2 mp (eSpecs S) (eCalls h) = some (((ords S h bef m s).length : Int), mp')
    have hmd : ((ords S h bef m s).length : Int) < 1000000000 := by have := ords_lt S h bef hl m s; omega
    unfold H74B
    cases hk : Am.mget mp (keyP m s) with
    | some v =>
      have hv := hg m s v hk
      refine ⟨mp, hg, ?_⟩
      have : lk Ar.std (cI .i64) mp (.agg [.int .u8 (m : Int), .int .i64 s.1, .int .i64 s.2]) = some (some ((ords S h bef m s).length : Int)) := by
        show (Am.mget mp (keyP m s)).elim _ _ = _
        rw [hk, hv]; simp
      rw [this]
      rfl
    | none =>
      have : lk Ar.std (cI .i64) mp (.agg [.int .u8 (m : Int), .int .i64 s.1, .int .i64 s.2]) = some none := by
        show (Am.mget mp (keyP m s)).elim _ _ = _
        rw [hk]; rfl
      rw [this]
      simp only [bsome, Option.elim_none, cond_false, H115a_eq hl hm, cond_some, H116c]
      
      have hloop := iter_rel (step := H125aL1 Ar.std (eSpecs S) (eCalls h) (m : Int) s.1 s.2 (H74R Ar.std n)) h.length (fun (q : List (D × D) × Int) i => ((i : Int), q.1, q.2))
        (fun i q => GoodM S h bef q.1 ∧ q.2 = (bif endsM h m then 1 else 0 : Int) + (((List.range i).map (contr S h bef m s)).sum : Int)) (fun q => (q.1, q.2))
        (fun i q hi hR => by
          obtain ⟨q1, q2⟩ := q
          obtain ⟨hg1, rfl⟩ := hR
          have hc := List.getElem?_eq_getElem hi
          have hcm := List.getElem_mem hi
          generalize h[i] = c at hc hcm
          obtain ⟨hcok, hcin⟩ := hok c hcm
          have hsum : ((List.range (i + 1)).map (contr S h bef m s)).sum = ((List.range i).map (contr S h bef m s)).sum + contr S h bef m s i := by
            rw [List.range_succ, List.map_append, List.sum_append]; simp
          have hle := ords_len S h bef m s
          have hle2 : ((List.range (i + 1)).map (contr S h bef m s)).sum ≤ _ := sum_le (f := contr S h bef m s) hi
          have hlt2 := ords_lt S h bef hl m s
          simp only [H125aL1, std_zlt, len_enc, ltC hi, cond_true, gt_enc hc, bsome, H124a_eq hm (by omega : i ≤ 8), H125aL0_eq hl (fun c hc => (hok c hc).1) hm (by omega : i ≤ 8), std_wrp, std_zadd, wrap1 hi (by omega)]
          cases hf : freeM h bef m i c with
          | false =>
            have h0 : contr S h bef m s i = 0 := by simp [contr, nextM, hc, hf]
            refine ⟨(q1, _), ⟨hg1, by simp only [hsum, h0, Nat.add_zero]⟩, ?_⟩
            simp only [cond_false, bsome]
          | true =>
            have ht : m.testBit i = false := by simp only [freeM, Bool.and_eq_true] at hf; simpa using hf.1
            simp only [cond_true, H78a_eq hcin hs, bsome]
            cases ho : okS S c s with
            | false =>
              have h0 : contr S h bef m s i = 0 := by simp [contr, nextM, hc, ho]
              refine ⟨(q1, _), ⟨hg1, by simp only [hsum, h0, Nat.add_zero]⟩, ?_⟩
              simp only [cond_false, bsome]
            | true =>
              have hn : nextM S h bef m s i = some (ins m i, doS S c s) := by simp [nextM, hc, hf, ho]
              have h0 : contr S h bef m s i = (ords S h bef (ins m i) (doS S c s)).length := by simp [contr, hn]
              have hz : decide ((i : Int) < 0) = false := by simp
              obtain ⟨mp2, hg2, e2⟩ := ih (ins m i) (doS S c s) q1 (by have := room_ins hi ht; omega) (ins_lt (n := 8) hm (by omega)) (doS_ok hcin hs) hg1
              have hins : Ar.std.bits .or .u8 (m : Int) (Ar.std.shl .u8 1 (i : Int)) = ((ins m i : Nat) : Int) := ins_u8 m i hm (by omega)
              refine ⟨(mp2, _), ⟨hg2, rfl⟩, ?_⟩
              simp only [cond_true, hz, nk_false, bsome, hins, e2]
              have hw : IntKind.i64.wrap ((bif endsM h m then 1 else 0 : Int) + (((List.range i).map (contr S h bef m s)).sum : Int) + ((ords S h bef (ins m i) (doS S c s)).length : Int)) = (bif endsM h m then 1 else 0 : Int) + (((List.range (i + 1)).map (contr S h bef m s)).sum : Int) := by
                rw [hsum, h0]
                rw [hsum, h0] at hle2
                cases he : endsM h m <;> simp only [he, cond_true, cond_false] at hle ⊢ <;> (rw [i64w _ (by omega) (by omega)]; omega)
              rw [hw])
        (fun q hR => by simp [H125aL1]) (mp, (bif endsM h m then 1 else 0 : Int)) ⟨hg, by simp⟩
      obtain ⟨q, ⟨hg1, hq2⟩, hit⟩ := hloop
      have htot : q.2 = ((ords S h bef m s).length : Int) := by
        rw [hq2, ords_len]; cases endsM h m <;> simp
      simp only [H125a]
      have hit' : iter (H125aL1 Ar.std (eSpecs S) (eCalls h) (m : Int) s.1 s.2 (H74R Ar.std n)) (0, mp, bif endsM h m then 1 else 0) = some (q.1, q.2) := hit
      rw [hit']
      refine ⟨Am.mput q.1 (keyP m s) (.int .i64 ((ords S h bef m s).length : Int)), hg1.put m s, ?_⟩
      simp only [bsome, htot, std_mput]
      rfl
theorem H74_eq (hl : h.length ≤ 8) (hok : ∀ c ∈ h, callOk c = true ∧ callIn S c) {m : Nat} {s : Int × Int} {mp : List (D × D)} (hm : m < 256) (hs : stOk S s) (hg : GoodM S h bef mp) :
    ∃ mp', GoodM S h bef mp' ∧ H74 Ar.std (m : Int) s.1 s.2 mp (eSpecs S) (eCalls h) = some (((ords S h bef m s).length : Int), mp') := by
  have hr : room h m < fuel := by
    have := List.countP_le_length (p := fun i => !m.testBit i) (l := List.range h.length)
    rw [List.length_range] at this
    rw [fuel_eq]; unfold room; omega
  exact H74_ok hl hok fuel m s mp hr hm hs hg
end
section
variable {S : List Spec} {h : List Call}
end
end Go.Am

set_option maxRecDepth 100000
set_option linter.unusedVariables false
set_option linter.unusedSimpArgs false
namespace Go.Am
open Go
def eNats (l : List Nat) : List D := eInts (l.map (fun i : Nat => (i : Int)))
theorem ap_nat {l : List Nat} {i : Nat} (h : l.length < 4294967295) : ap Ar.std (eNats l) [.int .i64 (i : Int)] = some (eNats (l ++ [i])) := by
  unfold eNats
  have := ap_enc1 (c := cI .i64) (l := l.map (fun i : Nat => (i : Int))) (a := (i : Int)) (d := .int .i64 (i : Int)) rfl (by simpa using h)
  rw [this, List.map_append]
  rfl
theorem flatMap_first {β : Type} {f : Nat → List β} {n i : Nat} (hi : i < n) (h0 : ∀ j, j < i → f j = []) (h1 : f i ≠ []) : ((List.range n).flatMap f).head? = (f i).head? := by
  obtain ⟨k, rfl⟩ : ∃ k, n = i + (1 + k) := ⟨n - i - 1, by omega⟩
  rw [List.range_add, List.flatMap_append]
  have e1 : (List.range i).flatMap f = [] := by
    rw [List.flatMap_eq_nil_iff]; exact fun j hj => h0 j (List.mem_range.1 hj)
  rw [e1, List.nil_append, Nat.add_comm 1 k, List.range_succ_eq_map, List.map_cons, List.flatMap_cons, Nat.add_zero]
  cases hf : f i with
  | nil => exact absurd hf h1
  | cons a l => simp
def kid (S : List Spec) (h : List Call) (must : Call → Call → Bool) (m : Nat) (s : Int × Int) (i : Nat) : List (List Nat) := ((nextM S h must m s i).map fun p => (ords S h must p.1 p.2).map (i :: ·)).getD []
theorem kid_len (S : List Spec) (h : List Call) (must : Call → Call → Bool) (m : Nat) (s : Int × Int) (i : Nat) : (kid S h must m s i).length = contr S h must m s i := by
  unfold kid contr; cases nextM S h must m s i <;> simp
theorem way_step {S : List Spec} {h : List Call} {must : Call → Call → Bool} {m : Nat} {s : Int × Int} (he : endsM h m = false) {i : Nat} (hi : i < h.length) {p : Nat × Int × Int} (hn : nextM S h must m s i = some p)
    (h0 : ∀ j, j < i → contr S h must m s j = 0) (h1 : ords S h must p.1 p.2 ≠ []) : ords S h must m s ≠ [] ∧ way S h must m s = i :: way S h must p.1 p.2 := by
  have hk : kid S h must m s i = (ords S h must p.1 p.2).map (i :: ·) := by simp [kid, hn]
  have hne : kid S h must m s i ≠ [] := by rw [hk]; simpa using h1
  have hh : (ords S h must m s).head? = (kid S h must m s i).head? := by
    rw [ords_eq, he, cond_false, List.nil_append]
    exact flatMap_first (f := kid S h must m s) hi (fun j hj => by have := h0 j hj; rw [← kid_len] at this; exact List.length_eq_zero_iff.1 this) hne
  unfold way
  rw [hh, hk]
  cases ho : ords S h must p.1 p.2 with
  | nil => exact absurd ho h1
  | cons l r =>
    refine ⟨?_, by simp⟩
    intro e
    rw [e, hk, ho] at hh
    simp at hh
section
variable {S : List Spec} {h : List Call}
theorem H125bL0_eq (hl : h.length ≤ 8) (hok : ∀ c ∈ h, callOk c = true) {m : Nat} (hm : m < 256) {i : Nat} {c : Call} (hi : i ≤ 8) :
    iter (H125bL0 Ar.std (eCalls h) (m : Int) c.1 c.2.1 c.2.2.1 c.2.2.2.1 c.2.2.2.2.1 c.2.2.2.2.2) (!m.testBit i, 0) = some (freeM h bef m i c) := H125aL0_eq hl hok hm hi
theorem H125b_ok (hl : h.length ≤ 8) (hok : ∀ c ∈ h, callOk c = true ∧ callIn S c) {m : Nat} {s : Int × Int} {mp : List (D × D)} {out : List Nat} (hm : m < 256) (hs : stOk S s) (hg : GoodM S h bef mp) (ho : out.length < 100)
    (he : endsM h m = false) (hne : ords S h bef m s ≠ []) :
    ∃ i p mp', i < h.length ∧ nextM S h bef m s i = some p ∧ (∀ j, j < i → contr S h bef m s j = 0) ∧ ords S h bef p.1 p.2 ≠ [] ∧ GoodM S h bef mp' ∧
      H125b Ar.std mp (eSpecs S) (eCalls h) (m : Int) s.1 s.2 (eNats out) (m : Int) s.1 s.2 = some (.inr (mp', (p.1 : Int), p.2.1, p.2.2, eNats (out ++ [i]))) := by
  have hloop := iter_relE (step := H125bL1 Ar.std (eSpecs S) (eCalls h) (eNats out) (m : Int) s.1 s.2) h.length (fun (q : List (D × D)) i => ((i : Int), q))
    (fun i q => GoodM S h bef q ∧ ∀ j, j < i → contr S h bef m s j = 0)
    (fun i x => ∃ p mp', x = .inr (mp', (p.1 : Int), p.2.1, p.2.2, eNats (out ++ [i])) ∧ nextM S h bef m s i = some p ∧ (∀ j, j < i → contr S h bef m s j = 0) ∧ ords S h bef p.1 p.2 ≠ [] ∧ GoodM S h bef mp')
    (fun q => .inl q)
    (fun i q hi hR => by
      obtain ⟨hg1, h0⟩ := hR
      have hc := List.getElem?_eq_getElem hi
      have hcm := List.getElem_mem hi
      generalize h[i] = c at hc hcm
      obtain ⟨hcok, hcin⟩ := hok c hcm
      simp only [H125bL1, jn, std_zlt, len_enc, ltC hi, cond_true, gt_enc hc, bsome, H124a_eq hm (by omega : i ≤ 8), H125bL0_eq hl (fun c hc => (hok c hc).1) hm (by omega : i ≤ 8), std_wrp, std_zadd, wrap1 hi (by omega)]
      have goon : contr S h bef m s i = 0 → ∀ j, j < i + 1 → contr S h bef m s j = 0 := fun hz j hj => by
        rcases Nat.lt_or_eq_of_le (Nat.le_of_lt_succ hj) with h | h
        · exact h0 j h
        · rw [h]; exact hz
      cases hf : freeM h bef m i c with
      | false => exact .inl ⟨q, ⟨hg1, goon (by simp [contr, nextM, hc, hf])⟩, by simp only [cond_false]⟩
      | true =>
        have ht : m.testBit i = false := by simp only [freeM, Bool.and_eq_true] at hf; simpa using hf.1
        simp only [cond_true, H78a_eq hcin hs, bsome]
        cases hos : okS S c s with
        | false => exact .inl ⟨q, ⟨hg1, goon (by simp [contr, nextM, hc, hos])⟩, by simp only [cond_false]⟩
        | true =>
          have hn : nextM S h bef m s i = some (ins m i, doS S c s) := by simp [nextM, hc, hf, hos]
          have hc0 : contr S h bef m s i = (ords S h bef (ins m i) (doS S c s)).length := by simp [contr, hn]
          have hz : decide ((i : Int) < 0) = false := by simp
          have hins : Ar.std.bits .or .u8 (m : Int) (Ar.std.shl .u8 1 (i : Int)) = ((ins m i : Nat) : Int) := ins_u8 m i hm (by omega)
          obtain ⟨mp2, hg2, e2⟩ := H74_eq hl hok (m := ins m i) (ins_lt (n := 8) hm (by omega)) (doS_ok hcin hs) hg1
          simp only [cond_true, hz, nk_false, bsome, hins, e2]
          cases hlen : (ords S h bef (ins m i) (doS S c s)).length with
          | zero =>
            refine .inl ⟨mp2, ⟨hg2, goon (by rw [hc0, hlen])⟩, ?_⟩
            simp
          | succ k =>
            refine .inr ⟨_, ⟨(ins m i, doS S c s), mp2, rfl, hn, h0, fun e => (by simp only at e; rw [e] at hlen; cases hlen), hg2⟩, ?_⟩
            have hp : decide (0 < ((k + 1 : Nat) : Int)) = true := decide_eq_true (by omega)
            simp only [hp, cond_true, ap_nat (show out.length < 4294967295 by omega), bsome]
            rfl)
    (fun q hR => by simp [H125bL1]) mp ⟨hg, fun j hj => by omega⟩
  rcases hloop with ⟨q, ⟨_, h0⟩, _⟩ | ⟨i, x, hi, ⟨p, mp', rfl, hn, h0, h1, hg'⟩, hit⟩
  · exfalso
    apply hne
    have hlen := ords_len S h bef m s
    rw [he, cond_false, Nat.zero_add] at hlen
    have : ((List.range h.length).map (contr S h bef m s)).sum = 0 := by
      have hz : (List.range h.length).map (contr S h bef m s) = (List.range h.length).map (fun _ => 0) := List.map_congr_left fun j hj => h0 j (List.mem_range.1 hj)
      rw [hz, List.map_const']; simp
    rw [this] at hlen
    exact List.length_eq_zero_iff.1 hlen
  · refine ⟨i, p, mp', hi, hn, h0, h1, hg', ?_⟩
    have hit' : iter (H125bL1 Ar.std (eSpecs S) (eCalls h) (eNats out) (m : Int) s.1 s.2) (0, mp) = some (.inr (mp', (p.1 : Int), p.2.1, p.2.2, eNats (out ++ [i]))) := hit
    simp only [H125b, hit', bsome, Sum.elim_inr]
theorem first_ok (hl : h.length ≤ 8) (hok : ∀ c ∈ h, callOk c = true ∧ callIn S c) : ∀ (k m : Nat) (s : Int × Int) (mp : List (D × D)) (out : List Nat), room h m ≤ k → out.length + room h m < 100 → m < 256 → stOk S s → GoodM S h bef mp → ords S h bef m s ≠ [] →
    ∃ mp' m' a' b', iter (H92L0 Ar.std (eSpecs S) (eCalls h)) (mp, (m : Int), s.1, s.2, eNats out) = some (mp', m', a', b', eNats (out ++ way S h bef m s)) := by
  intro k
  induction k with
  | zero =>
    intro m s mp out hr ho hm hs hg hne
    cases he : endsM h m with
    | true =>
      have hw : way S h bef m s = [] := by unfold way; rw [ords_eq, he]; rfl
      refine ⟨mp, m, s.1, s.2, iter_inr ?_⟩
      simp only [H92L0, H115a_eq hl hm, he, bsome, cond_true, hw, List.append_nil]
    | false =>
      obtain ⟨i, p, mp', hi, hn, _⟩ := H125b_ok hl hok hm hs hg (out := out) (by omega) he hne
      obtain ⟨c, _, _, ht, _⟩ := nextM_some hn
      have := room_ins hi ht
      omega
  | succ k ih =>
    intro m s mp out hr ho hm hs hg hne
    cases he : endsM h m with
    | true =>
      have hw : way S h bef m s = [] := by unfold way; rw [ords_eq, he]; rfl
      refine ⟨mp, m, s.1, s.2, iter_inr ?_⟩
      simp only [H92L0, H115a_eq hl hm, he, bsome, cond_true, hw, List.append_nil]
    | false =>
      obtain ⟨i, p, mp', hi, hn, h0, h1, hg', e⟩ := H125b_ok hl hok hm hs hg (out := out) (by omega) he hne
      obtain ⟨c, hc, _, ht, _, _, rfl⟩ := nextM_some hn
      have hcm := List.mem_of_getElem? hc
      have hri := room_ins hi ht
      obtain ⟨_, hw⟩ := way_step he hi hn h0 h1
      obtain ⟨mp2, m2, a2, b2, e2⟩ := ih (ins m i) (doS S c s) mp' (out ++ [i]) (by omega) (by simp; omega) (ins_lt (n := 8) hm (by omega)) (doS_ok (hok c hcm).2 hs) hg' h1
      refine ⟨mp2, m2, a2, b2, ?_⟩
      rw [hw, show out ++ i :: way S h bef (ins m i) (doS S c s) = (out ++ [i]) ++ way S h bef (ins m i) (doS S c s) by simp, ← e2]
      refine iter_inl ?_
      simp only [H92L0, H115a_eq hl hm, he, bsome, cond_false, H116d, e, Sum.elim_inr]
theorem H92_eq (hl : h.length ≤ 8) (hok : ∀ c ∈ h, callOk c = true ∧ callIn S c) {m : Nat} {s : Int × Int} {mp : List (D × D)} (hm : m < 256) (hs : stOk S s) (hg : GoodM S h bef mp) :
    ∃ mp', H92 Ar.std (m : Int) s.1 s.2 mp (eSpecs S) (eCalls h) = some (eNats (way S h bef m s), !(ords S h bef m s).isEmpty, mp') := by
  obtain ⟨mp1, hg1, e1⟩ := H74_eq hl hok hm hs hg
  simp only [H92, e1, bsome, std_zeq]
  cases ho : ords S h bef m s with
  | nil => exact ⟨mp1, by simp [way, ho, eNats]⟩
  | cons l r =>
    have hr : room h m ≤ 8 := by
      have := List.countP_le_length (p := fun i => !m.testBit i) (l := List.range h.length)
      unfold room; rw [List.length_range] at this; omega
    obtain ⟨mp2, m2, a2, b2, e2⟩ := first_ok hl hok (room h m) m s mp1 [] (Nat.le_refl _) (by simp; omega) hm hs hg1 (by rw [ho]; simp)
    have hz : decide (((l :: r).length : Int) = 0) = false := by simp; omega
    have e2' : iter (H92L0 Ar.std (eSpecs S) (eCalls h)) (mp1, (m : Int), s.1, s.2, []) = some (mp2, m2, a2, b2, eNats ([] ++ way S h bef m s)) := e2
    exact ⟨mp2, by simp only [hz, cond_false, e2', bsome, List.nil_append]; rfl⟩
end
def ords0 (S : List Spec) (h : List Call) : List (List Nat) := ords S h bef 0 (0, 0)
def orderR (S : List Spec) (h : List Call) : List Nat × Int := bif decide (errH S h = 0) then (match ords0 S h with | [] => ([], 5) | l :: _ => (l, 0)) else ([], errH S h)
theorem errH_zero {S : List Spec} {h : List Call} (he : errH S h = 0) : areS S = true ∧ forH S h = true := by
  unfold errH at he
  cases ha : areS S <;> cases hf : forH S h <;> simp [ha, hf] at he ⊢
theorem H43_eq (S : List Spec) (h : List Call) (hs : SpecsOk S) (hl : h.length < Lg) : H43 Ar.std (eSpecs S) (eCalls h) = some (eNats (orderR S h).1, (orderR S h).2) := by
  simp only [H43, H71_eq S h hs hl, bsome, std_zeq, H72, orderR]
  by_cases he : errH S h = 0
  · obtain ⟨ha, hf⟩ := errH_zero he
    obtain ⟨h8, hok⟩ := forH_in ha hf
    obtain ⟨mp', e⟩ := H92_eq (S := S) (h := h) h8 hok (m := 0) (s := (0, 0)) (mp := []) (by decide) (stOk_zero ha) (GoodM.nil _ _ _)
    have e' : H92 Ar.std 0 0 0 [] (eSpecs S) (eCalls h) = _ := e
    simp only [he, decide_true, cond_true, e', bsome, ords0, way]
    cases ho : ords S h bef 0 (0, 0) with
    | nil => rfl
    | cons l r => rfl
  · simp only [he, decide_false, cond_false]; rfl
theorem H30_eq (S : List Spec) (h : List Call) (hs : SpecsOk S) (hl : h.length < Lg) : H30 Ar.std (eSpecs S) (eCalls h) = some (bif decide (errH S h = 0) then (((ords0 S h).length : Int), 0) else (0, errH S h)) := by
  simp only [H30, H71_eq S h hs hl, bsome, std_zeq, H72]
  by_cases he : errH S h = 0
  · obtain ⟨ha, hf⟩ := errH_zero he
    obtain ⟨h8, hok⟩ := forH_in ha hf
    obtain ⟨mp', _, e⟩ := H74_eq (S := S) (h := h) h8 hok (m := 0) (s := (0, 0)) (mp := []) (by decide) (stOk_zero ha) (GoodM.nil _ _ _)
    have e' : H74 Ar.std 0 0 0 [] (eSpecs S) (eCalls h) = _ := e
    simp only [he, decide_true, cond_true, e', bsome, ords0]
  · simp only [he, decide_false, cond_false]
theorem H26_eq (S : List Spec) (h : List Call) (hs : SpecsOk S) (hl : h.length < Lg) : H26 Ar.std (eSpecs S) (eCalls h) = some (decide (errH S h = 0) && !(ords0 S h).isEmpty, errH S h) := by
  simp only [H26, H30_eq S h hs hl, bsome, std_zlt]
  by_cases he : errH S h = 0
  · simp only [he, decide_true, cond_true]
    cases ords0 S h <;> simp
  · simp [he]
theorem H56_eq (l m : List Int) (hl : l.length < Lg) : H56 Ar.std (eInts l) (eInts m) = some (decide (l = m)) := by
  simp only [H56, std_zeq, len_enc]
  by_cases hlen : l.length = m.length
  · have e : iter (H56L0 Ar.std (eInts l) (eInts m)) 0 = some (bif (List.range l.length).any (fun i => decide (l[i]? ≠ m[i]?)) then .inr () else .inl ()) := by
      refine iter_rng l.length _ _ _ (fun i hi => ?_) ?_
      · have hi2 : i < m.length := by omega
        have h1 := List.getElem?_eq_getElem hi
        have h2 := List.getElem?_eq_getElem hi2
        simp only [H56L0, std_zlt, len_enc, ltC hi, cond_true, gt_enc h1, gt_enc h2, bsome, std_zeq, std_wrp, std_zadd, wrap1 hi hl, h1, h2]
        by_cases he : l[i] = m[i] <;> simp [he]
      · simp [H56L0]
    have hc : decide ((l.length : Int) = (m.length : Int)) = true := by simp; omega
    simp only [hc, cond_true, e, bsome]
    by_cases he : l = m
    · subst he; simp
    · have : (List.range l.length).any (fun i => decide (l[i]? ≠ m[i]?)) = true := by
        refine Classical.byContradiction fun hn => he ?_
        rw [Bool.not_eq_true, List.any_eq_false] at hn
        refine List.ext_getElem? fun i => ?_
        rcases Nat.lt_or_ge i l.length with h | h
        · have := hn i (List.mem_range.2 h); simpa using this
        · rw [List.getElem?_eq_none h, List.getElem?_eq_none (by omega)]
      rw [this]; simp [he]
  · have hc : decide ((l.length : Int) = (m.length : Int)) = false := by simp; omega
    have : ¬ l = m := fun e => hlen (by rw [e])
    simp [hc, this]
def qSpec : Spec := (2, 2, [[1, 0], [1, 0]], [[1, 0], [0, 1]])
def qHist : List Call := [(0, 0, 0, 1, 1, 6), (1, 0, 1, 0, 2, 5)]
theorem sane_order : orderR [qSpec] qHist = ([1, 0], 0) := by decide +kernel
theorem H19_eq : H19 Ar.std = some true := by
  have hs : SpecsOk [qSpec] := by
    refine ⟨by decide, fun s hs => ?_⟩
    obtain rfl : s = qSpec := by simpa using hs
    refine ⟨⟨by decide, fun r hr => ?_⟩, ⟨by decide, fun r hr => ?_⟩⟩ <;> simp [qSpec] at hr <;> rcases hr with rfl | rfl <;> decide
  have e := H43_eq [qSpec] qHist hs (by decide)
  rw [sane_order] at e
  have e' : H43 Ar.std [(.agg [(.int .i64 2), (.int .i64 2), (.list 1 [(.list 1 [(.int .i64 1), (.int .i64 0)]), (.list 1 [(.int .i64 1), (.int .i64 0)])]), (.list 1 [(.list 1 [(.int .i64 1), (.int .i64 0)]), (.list 1 [(.int .i64 0), (.int .i64 1)])])])] [(.agg [(.int .i64 0), (.int .i64 0), (.int .i64 0), (.int .i64 1), (.int .i64 1), (.int .i64 6)]), (.agg [(.int .i64 1), (.int .i64 0), (.int .i64 1), (.int .i64 0), (.int .i64 2), (.int .i64 5)])] = some (eInts [1, 0], 0) := e
  have e2 : H56 Ar.std (eInts [1, 0]) [(.int .i64 1), (.int .i64 0)] = some true := by
    have h := H56_eq [1, 0] [1, 0] (by decide)
    rw [decide_eq_true rfl] at h
    exact h
  simp only [H19, e', bsome, std_zeq, decide_true, cond_true, e2]
end Go.Am

set_option maxRecDepth 100000
set_option linter.unusedVariables false
set_option linter.unusedSimpArgs false
namespace Go.Am
open Go
def hc (h : List Call) (x : Int) : Call := h.getD x.toNat (0, 0, 0, 0, 0, 0)
def inH (h : List Call) (x : Int) : Bool := btw 0 x ((h.length : Int) - 1)
theorem inH_iff {h : List Call} {x : Int} : inH h x = true ↔ 0 ≤ x ∧ x < h.length := by unfold inH; rw [btw_true]; omega
theorem hc_get {h : List Call} {x : Int} (hx : inH h x = true) : h[x.toNat]? = some (hc h x) := by
  rw [inH_iff] at hx
  have : x.toNat < h.length := by omega
  simp [hc, List.getD_eq_getElem?_getD, List.getElem?_eq_getElem this]
theorem hc_nat {h : List Call} {i : Nat} {c : Call} (hi : h[i]? = some c) : hc h (i : Int) = c := by simp [hc, List.getD_eq_getElem?_getD, hi]
def numsAt (h : List Call) (l : List Int) (i : Nat) : Bool := (l[i]?.map fun x => !inH h x || (l.take i).contains x).getD false
def nums (h : List Call) (l : List Int) : Bool := !(List.range l.length).any (numsAt h l)
def full (h : List Call) (l : List Int) : Bool := !(List.range h.length).any fun i => (h[i]?.map fun c => decide (c.to ≠ 0) && !l.contains (i : Int)).getD false
def isL (h : List Call) (l : List Int) : Bool := nums h l && full h l
theorem nums_iff {h : List Call} {l : List Int} : nums h l = true ↔ (∀ x ∈ l, inH h x = true) ∧ l.Nodup := by
  simp only [nums, Bool.not_eq_true', List.any_eq_false, List.mem_range]
  constructor
  · intro hn
    have hx : ∀ i (hi : i < l.length), inH h l[i] = true ∧ l[i] ∉ l.take i := by
      intro i hi
      have := hn i hi
      simp only [numsAt, List.getElem?_eq_getElem hi, Option.map_some, Option.getD_some, Bool.or_eq_true, not_or, Bool.not_eq_true', Bool.not_eq_false, List.contains_iff_mem] at this
      exact this
    refine ⟨fun x hxm => ?_, ?_⟩
    · obtain ⟨i, hi, rfl⟩ := List.getElem_of_mem hxm
      exact (hx i hi).1
    · rw [List.Nodup, List.pairwise_iff_getElem]
      intro i j hi hj hij e
      refine (hx j hj).2 ?_
      rw [← e]
      have hlt : i < (l.take j).length := by simp; omega
      have : (l.take j)[i] = l[i] := List.getElem_take
      rw [← this]; exact List.getElem_mem hlt
  · rintro ⟨h1, h2⟩ i hi
    simp only [numsAt, List.getElem?_eq_getElem hi, Option.map_some, Option.getD_some, Bool.or_eq_true, not_or, Bool.not_eq_true', Bool.not_eq_false, List.contains_iff_mem]
    refine ⟨h1 _ (List.getElem_mem hi), fun hm => ?_⟩
    obtain ⟨j, hj, e⟩ := List.getElem_of_mem hm
    have hj' : j < i := by simp at hj; omega
    rw [List.getElem_take] at e
    rw [List.Nodup, List.pairwise_iff_getElem] at h2
    exact h2 j i (by omega) hi hj' e
section
variable {h : List Call} (hl : h.length ≤ 40)
include hl
def keepsAt (must : Call → Call → Bool) (h : List Call) (l : List Int) (i : Nat) : Bool := (l[i]?.map fun x => (l.take i).any fun y => must (hc h x) (hc h y)).getD false
def keepsL (must : Call → Call → Bool) (h : List Call) (l : List Int) : Bool := !(List.range l.length).any (keepsAt must h l)
def allowsF (S : List Spec) (h : List Call) : List Int → Int × Int → Bool
  | [], _ => true
  | x :: l, s => okS S (hc h x) s && allowsF S h l (doS S (hc h x) s)
def allowsL (S : List Spec) (h : List Call) (l : List Int) : Bool := allowsF S h l (0, 0)
end
end Go.Am

set_option maxRecDepth 100000
set_option linter.unusedVariables false
set_option linter.unusedSimpArgs false
namespace Go.Am
open Go
def cN (l : List Nat) : List Int := l.map (fun i : Nat => (i : Int))
@[simp] theorem cN_snoc (l : List Nat) (i : Nat) : cN (l ++ [i]) = cN l ++ [(i : Int)] := by simp [cN]
theorem cN_mem {l : List Nat} {i : Nat} : (i : Int) ∈ cN l ↔ i ∈ l := by
  simp only [cN, List.mem_map]
  constructor
  · rintro ⟨j, hj, e⟩; have : j = i := by omega
    subst this; exact hj
  · intro h; exact ⟨i, h, rfl⟩
def maskL (l : List Nat) : Nat := l.foldl ins 0
def runL (S : List Spec) (h : List Call) (l : List Nat) : Int × Int := l.foldl (fun s (i : Nat) => doS S (hc h (i : Int)) s) (0, 0)
theorem maskL_snoc (l : List Nat) (i : Nat) : maskL (l ++ [i]) = ins (maskL l) i := by simp [maskL]
theorem runL_snoc (S : List Spec) (h : List Call) (l : List Nat) (i : Nat) : runL S h (l ++ [i]) = doS S (hc h (i : Int)) (runL S h l) := by simp [runL]
theorem snoc_ind {α : Type} {P : List α → Prop} (h0 : P []) (h1 : ∀ l a, P l → P (l ++ [a])) : ∀ l, P l := by
  intro l
  have : ∀ k (l : List α), l.length = k → P l := by
    intro k
    induction k with
    | zero => intro l hl; rw [List.length_eq_zero_iff.1 hl]; exact h0
    | succ k ih =>
      intro l hl
      have hne : l ≠ [] := by intro e; rw [e] at hl; cases hl
      rw [← List.dropLast_concat_getLast hne]
      exact h1 _ _ (ih _ (by rw [List.length_dropLast, hl]; rfl))
  exact this _ l rfl
theorem maskL_test (l : List Nat) (i : Nat) : (maskL l).testBit i = decide (i ∈ l) := by
  induction l using snoc_ind with
  | h0 => simp [maskL]
  | h1 l a ih =>
    rw [maskL_snoc, ins_test, ih, Bool.eq_iff_iff]
    simp only [Bool.or_eq_true, decide_eq_true_eq, List.mem_append, List.mem_singleton]
    constructor
    · rintro (h | h)
      · exact .inl h
      · exact .inr h.symm
    · rintro (h | h)
      · exact .inl h
      · exact .inr h.symm
theorem allowsF_snoc (S : List Spec) (h : List Call) (x : Int) : ∀ (l : List Int) (s : Int × Int), allowsF S h (l ++ [x]) s = (allowsF S h l s && okS S (hc h x) (l.foldl (fun s x => doS S (hc h x) s) s))
  | [], s => by simp [allowsF]
  | y :: l, s => by simp only [List.cons_append, allowsF, allowsF_snoc S h x l, List.foldl_cons, Bool.and_assoc]
theorem allowsL_snoc (S : List Spec) (h : List Call) (l : List Nat) (i : Nat) : allowsL S h (cN (l ++ [i])) = (allowsL S h (cN l) && okS S (hc h (i : Int)) (runL S h l)) := by
  unfold allowsL
  rw [cN_snoc, allowsF_snoc]
  congr 2
  unfold runL cN
  rw [List.foldl_map]
theorem keepsL_snoc (must : Call → Call → Bool) (h : List Call) (l : List Int) (x : Int) : keepsL must h (l ++ [x]) = (keepsL must h l && !l.any fun y => must (hc h x) (hc h y)) := by
  unfold keepsL
  rw [List.length_append, List.length_singleton, List.range_succ, List.any_append]
  have h1 : (List.range l.length).any (keepsAt must h (l ++ [x])) = (List.range l.length).any (keepsAt must h l) := by
    refine any_congr fun i hi => ?_
    have hi := List.mem_range.1 hi
    unfold keepsAt
    rw [List.getElem?_append_left hi, List.take_append_of_le_length (by omega)]
  have h2 : keepsAt must h (l ++ [x]) l.length = l.any fun y => must (hc h x) (hc h y) := by
    unfold keepsAt
    rw [List.getElem?_append_right (Nat.le_refl _)]
    simp
  rw [h1]
  simp only [List.any_cons, List.any_nil, Bool.or_false, h2, Bool.not_or]
structure MustOk (must : Call → Call → Bool) (h : List Call) : Prop where
  ret : ∀ c ∈ h, ∀ d ∈ h, must c d = true → 0 < c.to
  irr : ∀ c ∈ h, must c c = false
theorem bef_must {h : List Call} (hok : ∀ c ∈ h, callOk c = true) : MustOk bef h := by
  refine ⟨fun c hc d _ hb => ?_, fun c hc => ?_⟩
  · have := (callOk_iff c).1 (hok c hc)
    simp only [bef, Bool.and_eq_true, decide_eq_true_eq] at hb; omega
  · have := (callOk_iff c).1 (hok c hc)
    simp only [bef, Bool.and_eq_false_iff, decide_eq_false_iff_not]; omega
section
variable {S : List Spec} {h : List Call} {must : Call → Call → Bool}
def closed (must : Call → Call → Bool) (h : List Call) (m : Nat) : Prop := ∀ (k i : Nat) (c d : Call), h[k]? = some c → h[i]? = some d → m.testBit i = true → m.testBit k = false → must c d = false
def dead (must : Call → Call → Bool) (h : List Call) (m : Nat) : Prop := ∃ (k i : Nat) (c d : Call), h[k]? = some c ∧ h[i]? = some d ∧ m.testBit i = true ∧ m.testBit k = false ∧ 0 < c.to ∧ must c d = true
theorem closed_ins {m i : Nat} {c : Call} (hcl : closed must h m) (hc : h[i]? = some c) (hf : freeM h must m i c = true) : closed must h (ins m i) := by
  intro k j c1 d1 hk hj hb1 hb2
  rw [ins_test, Bool.or_eq_true] at hb1
  rw [ins_test, Bool.or_eq_false_iff] at hb2
  rcases hb1 with hb | hb
  · exact hcl k j c1 d1 hk hj hb hb2.1
  · have hij : i = j := by simpa using hb
    subst hij
    rw [hc] at hj; cases hj
    simp only [freeM, Bool.and_eq_true, List.all_eq_true, List.mem_range] at hf
    have := hf.2 k (List.getElem?_eq_some_iff.1 hk).1
    rw [hb2.1, hk] at this
    simpa using this
theorem isL_ends {l : List Nat} (hok : ∀ c ∈ h, callOk c = true) (hn : nums h (cN l) = true) : isL h (cN l) = endsM h (maskL l) := by
  unfold isL full endsM
  rw [hn, Bool.true_and]
  congr 1
  refine any_congr fun i hi => ?_
  have hi := List.mem_range.1 hi
  have hc := List.getElem?_eq_getElem hi
  have hcm := List.getElem_mem hi
  generalize h[i] = c at hc hcm
  have := (callOk_iff c).1 (hok c hcm)
  rw [hc, Option.map_some, Option.map_some, Option.getD_some, Option.getD_some, maskL_test]
  have e1 : decide (c.to ≠ 0) = decide (0 < c.to) := by rw [decide_eq_decide]; omega
  have e2 : (cN l).contains (i : Int) = decide (i ∈ l) := by rw [Bool.eq_iff_iff]; simp [cN_mem]
  rw [e1, e2]
end
end Go.Am

set_option maxRecDepth 100000
set_option linter.unusedVariables false
set_option linter.unusedSimpArgs false
namespace Go.Am
open Go
section
variable (S : List Spec) (h : List Call) (hs : SpecsOk S) (hl : h.length < Lg)
include hs hl
end
end Go.Am

set_option maxRecDepth 100000
set_option linter.unusedVariables false
set_option linter.unusedSimpArgs false
namespace Go.Am
open Go
section
variable {h : List Call}
end
section
variable (S : List Spec) (h : List Call) (hs : SpecsOk S) (hl : h.length < Lg) (l : List Int) (hll : l.length < Lg)
include hl hll
include hs
end
end Go.Am

set_option maxRecDepth 100000
set_option linter.unusedVariables false
set_option linter.unusedSimpArgs false
namespace Go.Am
open Go
section
variable {h : List Call}
theorem H39_eq (S : List Spec) (hs : SpecsOk S) (hl : h.length < Lg) : H39 Ar.std (eSpecs S) (eCalls h) = some (areS S && forH S h) := by
  simp only [H39, H21_eq S h hs hl, bsome, std_zeq]
  cases areS S <;> simp
end
end Go.Am

set_option maxRecDepth 100000
set_option linter.unusedVariables false
set_option linter.unusedSimpArgs false
namespace Go.Am
open Go
section
variable (S : List Spec) (h : List Call) (must : Call → Call → Bool)
def isFrom : Nat → Int × Int → List Nat → Prop
  | m, _, [] => endsM h m = true
  | m, s, i :: l => ∃ p, nextM S h must m s i = some p ∧ isFrom p.1 p.2 l
end
section
variable {S : List Spec} {h : List Call} {must : Call → Call → Bool}
theorem mem_ords : ∀ (l : List Nat) (m : Nat) (s : Int × Int), l ∈ ords S h must m s ↔ isFrom S h must m s l
  | [], m, s => by
    rw [ords_eq]
    simp only [List.mem_append, List.mem_flatMap, isFrom]
    constructor
    · rintro (hx | ⟨i, _, hx⟩)
      · cases he : endsM h m <;> rw [he] at hx <;> simp at hx ⊢
      · cases hn : nextM S h must m s i <;> rw [hn] at hx <;> simp at hx
    · intro he; rw [he]; exact .inl (by simp)
  | i :: l, m, s => by
    rw [ords_eq]
    simp only [List.mem_append, List.mem_flatMap, isFrom]
    constructor
    · rintro (hx | ⟨j, _, hx⟩)
      · cases he : endsM h m <;> rw [he] at hx <;> simp at hx
      · cases hn : nextM S h must m s j with
        | none => rw [hn] at hx; simp at hx
        | some p =>
          rw [hn] at hx
          simp only [Option.map_some, Option.getD_some, List.mem_map, List.cons.injEq] at hx
          obtain ⟨y, hy, e1, e2⟩ := hx
          subst e1
          rw [e2] at hy
          exact ⟨p, hn, (mem_ords l p.1 p.2).1 hy⟩
    · rintro ⟨p, hn, hf⟩
      refine .inr ⟨i, ?_, ?_⟩
      · obtain ⟨c, _, hi, _⟩ := nextM_some hn
        exact List.mem_range.2 hi
      · rw [hn]
        simp only [Option.map_some, Option.getD_some, List.mem_map, List.cons.injEq]
        exact ⟨l, (mem_ords l p.1 p.2).2 hf, trivial, rfl⟩
theorem nodup_flat {α β : Type} {f : α → List β} : ∀ {l : List α}, (∀ a ∈ l, (f a).Nodup) → l.Pairwise (fun a b => ∀ x ∈ f a, x ∉ f b) → (l.flatMap f).Nodup
  | [], _, _ => by simp
  | a :: l, h1, h2 => by
    rw [List.pairwise_cons] at h2
    rw [List.flatMap_cons, List.nodup_append]
    refine ⟨h1 a (by simp), nodup_flat (fun b hb => h1 b (by simp [hb])) h2.2, fun x hx y hy e => ?_⟩
    subst e
    obtain ⟨b, hb, hxb⟩ := List.mem_flatMap.1 hy
    exact h2.1 b hb x hx hxb
theorem nodup_map_cons {i : Nat} : ∀ {l : List (List Nat)}, l.Nodup → (l.map (i :: ·)).Nodup
  | [], _ => by simp
  | a :: l, h => by
    simp only [List.nodup_cons, List.map_cons, List.mem_map, not_exists, not_and] at h ⊢
    refine ⟨fun b hb e => h.1 ?_, nodup_map_cons h.2⟩
    simp only [List.cons.injEq, true_and] at e
    rw [← e]; exact hb
theorem ords_nodup : ∀ (k m : Nat) (s : Int × Int), room h m ≤ k → (ords S h must m s).Nodup := by
  intro k
  induction k with
  | zero =>
    intro m s hr
    have : ords S h must m s = (bif endsM h m then [[]] else []) := by
      unfold ords
      rw [show room h m = 0 by omega]; rfl
    rw [this]; cases endsM h m <;> simp
  | succ k ih =>
    intro m s hr
    rw [ords_eq, List.nodup_append]
    refine ⟨by cases endsM h m <;> simp, ?_, ?_⟩
    · refine nodup_flat (fun i hi => ?_) ?_
      · cases hn : nextM S h must m s i with
        | none => simp
        | some p =>
          obtain ⟨c, _, hi, ht, _, _, rfl⟩ := nextM_some hn
          have hr2 := room_ins hi ht
          simp only [Option.map_some, Option.getD_some]
          exact nodup_map_cons (ih _ _ (by omega))
      · refine List.Pairwise.imp ?_ (List.pairwise_lt_range (n := h.length))
        intro i j hij x hx hy
        cases hn : nextM S h must m s i with
        | none => rw [hn] at hx; simp at hx
        | some p =>
          cases hn2 : nextM S h must m s j with
          | none => rw [hn2] at hy; simp at hy
          | some q =>
            rw [hn] at hx; rw [hn2] at hy
            simp only [Option.map_some, Option.getD_some, List.mem_map] at hx hy
            obtain ⟨a, _, rfl⟩ := hx
            obtain ⟨b, _, e⟩ := hy
            simp only [List.cons.injEq] at e
            omega
    · intro a ha b hb e
      subst e
      cases he : endsM h m <;> rw [he] at ha <;> simp at ha
      subst ha
      simp only [List.mem_flatMap] at hb
      obtain ⟨i, _, hb⟩ := hb
      cases hn : nextM S h must m s i <;> rw [hn] at hb <;> simp at hb
theorem keepsL_iff (must : Call → Call → Bool) (h : List Call) (l : List Int) : keepsL must h l = true ↔ l.Pairwise fun y x => must (hc h x) (hc h y) = false := by
  induction l using snoc_ind with
  | h0 => simp [keepsL]
  | h1 l a ih =>
    rw [keepsL_snoc, Bool.and_eq_true, ih, List.pairwise_append]
    simp only [List.pairwise_singleton, List.mem_singleton, forall_eq, true_and, Bool.not_eq_true', List.any_eq_false, Bool.not_eq_true]
theorem full_iff {l : List Int} : full h l = true ↔ ∀ (i : Nat) c, h[i]? = some c → c.to ≠ 0 → (i : Int) ∈ l := by
  simp only [full, Bool.not_eq_true', List.any_eq_false, List.mem_range]
  constructor
  · intro hf i c hc hto
    have := hf i (List.getElem?_eq_some_iff.1 hc).1
    rw [hc] at this
    simp only [Option.map_some, Option.getD_some, Bool.and_eq_true, decide_eq_true_eq, Bool.not_eq_true', not_and, Bool.not_eq_false, List.contains_iff_mem] at this
    exact this hto
  · intro hf i hi
    have hc := List.getElem?_eq_getElem hi
    rw [hc]
    simp only [Option.map_some, Option.getD_some, Bool.and_eq_true, decide_eq_true_eq, Bool.not_eq_true', not_and, Bool.not_eq_false, List.contains_iff_mem]
    exact hf i _ hc
def isOrdM (S : List Spec) (h : List Call) (must : Call → Call → Bool) (l : List Int) : Bool := isL h l && (keepsL must h l && allowsL S h l)
theorem allowsF_app (S : List Spec) (h : List Call) : ∀ (l m : List Int) (s : Int × Int), allowsF S h (l ++ m) s = (allowsF S h l s && allowsF S h m (l.foldl (fun s x => doS S (hc h x) s) s))
  | [], m, s => by simp [allowsF]
  | x :: l, m, s => by simp only [List.cons_append, allowsF, allowsF_app S h l m, List.foldl_cons, Bool.and_assoc]
theorem runL_cN (S : List Spec) (h : List Call) (l : List Nat) : (cN l).foldl (fun s x => doS S (hc h x) s) (0, 0) = runL S h l := by
  unfold cN runL; rw [List.foldl_map]
theorem nodup_cN {l : List Nat} : (cN l).Nodup ↔ l.Nodup := by
  unfold cN
  constructor
  · intro hn
    induction l with
    | nil => simp
    | cons a l ih =>
      simp only [List.map_cons, List.nodup_cons, List.mem_map, not_exists, not_and] at hn ⊢
      exact ⟨fun ha => hn.1 a ha rfl, ih hn.2⟩
  · intro hn
    induction l with
    | nil => simp
    | cons a l ih =>
      simp only [List.map_cons, List.nodup_cons, List.mem_map, not_exists, not_and] at hn ⊢
      exact ⟨fun b hb e => hn.1 (by have : b = a := by omega
                                    rw [← this]; exact hb), ih hn.2⟩
theorem from_isOrd (hok : ∀ c ∈ h, callOk c = true) (hm : MustOk must h) : ∀ (l2 l1 : List Nat), nums h (cN l1) = true → allowsL S h (cN l1) = true → keepsL must h (cN l1) = true → closed must h (maskL l1) →
    (isFrom S h must (maskL l1) (runL S h l1) l2 ↔ isOrdM S h must (cN (l1 ++ l2)) = true)
  | [], l1, hn, ha, hk, hcl => by
    rw [List.append_nil]
    simp only [isFrom, isOrdM, hk, ha, Bool.and_true]
    rw [isL_ends hok hn]
  | i :: l2, l1, hn, ha, hk, hcl => by
    have hrange : ∀ x ∈ cN l1, inH h x = true := (nums_iff.1 hn).1
    simp only [isFrom]
    have happ : l1 ++ i :: l2 = (l1 ++ [i]) ++ l2 := by simp
    constructor
    · rintro ⟨p, hnx, hf⟩
      obtain ⟨c, hci, hi, ht, hfr, hos, rfl⟩ := nextM_some hnx
      have hhc := hc_nat hci
      have hil : i ∉ l1 := by rw [maskL_test] at ht; simpa using ht
      have h1 : nums h (cN (l1 ++ [i])) = true := by
        rw [cN_snoc, nums_iff]
        obtain ⟨n1, n2⟩ := nums_iff.1 hn
        refine ⟨fun x hx => ?_, ?_⟩
        · rw [List.mem_append, List.mem_singleton] at hx
          rcases hx with hx | rfl
          · exact n1 x hx
          · exact inH_iff.2 ⟨by omega, by omega⟩
        · rw [List.nodup_append]
          refine ⟨n2, by simp, fun x hx y hy => ?_⟩
          rw [List.mem_singleton] at hy; subst hy
          rintro rfl
          exact hil (cN_mem.1 hx)
      have h2 : allowsL S h (cN (l1 ++ [i])) = true := by rw [allowsL_snoc, ha, hhc, hos]; rfl
      have h3 : keepsL must h (cN (l1 ++ [i])) = true := by
        rw [cN_snoc, keepsL_snoc, hk, hhc, Bool.true_and, Bool.not_eq_true', List.any_eq_false]
        intro y hy
        obtain ⟨j, hj, rfl⟩ := List.mem_map.1 hy
        have := hcl i j c (hc h (j : Int)) hci (by have := hc_get (hrange _ hy); simpa using this) (by rw [maskL_test]; simpa using hj) ht
        simp [this]
      have h4 : closed must h (maskL (l1 ++ [i])) := by rw [maskL_snoc]; exact closed_ins hcl hci hfr
      have := (from_isOrd hok hm l2 (l1 ++ [i]) h1 h2 h3 h4).1 (by rw [maskL_snoc, runL_snoc, hhc]; exact hf)
      rw [happ]; exact this
    · intro ho
      have ho' := ho
      simp only [isOrdM, isL, Bool.and_eq_true] at ho
      obtain ⟨⟨o1, o2⟩, o3, o4⟩ := ho
      obtain ⟨n1, n2⟩ := nums_iff.1 o1
      have hmem : (i : Int) ∈ cN (l1 ++ i :: l2) := cN_mem.2 (by simp)
      have hii := inH_iff.1 (n1 _ hmem)
      have hi : i < h.length := by omega
      have hci := List.getElem?_eq_getElem hi
      have hcm := List.getElem_mem hi
      generalize h[i] = c at hci hcm
      have hhc := hc_nat hci
      have hnd := nodup_cN.1 n2
      have hil : i ∉ l1 := by
        rw [List.nodup_append] at hnd
        intro hx
        exact hnd.2.2 i hx i (by simp) rfl
      have ht : (maskL l1).testBit i = false := by rw [maskL_test]; simpa using hil
      have hk2 := (keepsL_iff must h _).1 o3
      have hos : okS S c (runL S h l1) = true := by
        unfold allowsL at o4
        rw [show cN (l1 ++ i :: l2) = cN l1 ++ (i : Int) :: cN l2 by simp [cN], allowsF_app, Bool.and_eq_true, runL_cN] at o4
        have := o4.2
        simp only [allowsF, Bool.and_eq_true, hhc] at this
        exact this.1
      have hfr : freeM h must (maskL l1) i c = true := by
        simp only [freeM, ht, Bool.not_false, Bool.true_and, List.all_eq_true, List.mem_range]
        intro k hkl
        have hck := List.getElem?_eq_getElem hkl
        have hckm := List.getElem_mem hkl
        generalize h[k] = d at hck hckm
        rw [hck]
        simp only [Option.map_some, Option.getD_some, Bool.or_eq_true, Bool.not_eq_true']
        by_cases hkin : k ∈ l1
        · left; rw [maskL_test]; simpa using hkin
        · right
          cases hmu : must d c with
          | false => rfl
          | true =>
            exfalso
            have hret := hm.ret d hckm c hcm hmu
            have hkm := cN_mem.1 (full_iff.1 o2 k d hck (by omega))
            have hne : k ≠ i := by
              rintro rfl
              rw [hck] at hci; cases hci
              rw [hm.irr _ hckm] at hmu; cases hmu
            have hk3 : k ∈ l2 := by
              rw [List.mem_append, List.mem_cons] at hkm
              rcases hkm with h | h | h
              · exact absurd h hkin
              · exact absurd h hne
              · exact h
            rw [show cN (l1 ++ i :: l2) = cN l1 ++ (i : Int) :: cN l2 by simp [cN], List.pairwise_append] at hk2
            have := hk2.2.1
            rw [List.pairwise_cons] at this
            have := this.1 (k : Int) (cN_mem.2 hk3)
            rw [hc_nat hck, hhc, hmu] at this
            cases this
      have hnx : nextM S h must (maskL l1) (runL S h l1) i = some (ins (maskL l1) i, doS S c (runL S h l1)) := by simp [nextM, hci, hfr, hos]
      refine ⟨_, hnx, ?_⟩
      have h1 : nums h (cN (l1 ++ [i])) = true := by
        rw [nums_iff]
        refine ⟨fun x hx => n1 x ?_, nodup_cN.2 ?_⟩
        · rw [happ, show cN (l1 ++ [i] ++ l2) = cN (l1 ++ [i]) ++ cN l2 by simp [cN]]; exact List.mem_append_left _ hx
        · rw [happ] at hnd; exact (List.nodup_append.1 hnd).1
      have h2 : allowsL S h (cN (l1 ++ [i])) = true := by rw [allowsL_snoc, ha, hhc, hos]; rfl
      have h3 : keepsL must h (cN (l1 ++ [i])) = true := by
        rw [keepsL_iff]
        rw [happ, show cN (l1 ++ [i] ++ l2) = cN (l1 ++ [i]) ++ cN l2 by simp [cN], List.pairwise_append] at hk2
        exact hk2.1
      have h4 : closed must h (maskL (l1 ++ [i])) := by rw [maskL_snoc]; exact closed_ins hcl hci hfr
      have := (from_isOrd hok hm l2 (l1 ++ [i]) h1 h2 h3 h4).2 (by rw [happ] at ho'; exact ho')
      rw [maskL_snoc, runL_snoc, hhc] at this
      exact this
theorem mem_ords0 (hok : ∀ c ∈ h, callOk c = true) (hm : MustOk must h) (l : List Nat) : l ∈ ords S h must 0 (0, 0) ↔ isOrdM S h must (cN l) = true := by
  rw [mem_ords]
  have := from_isOrd (S := S) hok hm l [] rfl rfl rfl (fun k i c d _ _ hb _ => by simp [maskL] at hb)
  exact this
end
end Go.Am

set_option maxRecDepth 100000
set_option linter.unusedVariables false
set_option linter.unusedSimpArgs false
namespace Go.Am
open Go
section
variable {S : List Spec} {h : List Call} {must : Call → Call → Bool}
end
end Go.Am

set_option maxRecDepth 100000
set_option linter.unusedVariables false
set_option linter.unusedSimpArgs false
namespace Go.Am
open Go
def playOk (S : List Spec) (c : Call) : Bool := decide (c.sa = 0) && (decide (c.fr = 0) && (decide (c.to = 0) && (btw 0 c.ob ((S.length : Int) - 1) && (btw 0 c.op ((spOf S c).2.1 - 1) && btw 0 c.th 3))))
section
variable (S : List Spec) (w : List Call) (hs : SpecsOk S) (hw : w.length < Lg)
include hs hw
end
end Go.Am
namespace Go.Am
section
variable (S : List Spec) (w : List Call) (hs : SpecsOk S) (hw : w.length < Lg)
include hs hw
end
end Go.Am

set_option maxRecDepth 100000
set_option linter.unusedVariables false
set_option linter.unusedSimpArgs false
namespace Go.Am
open Go
section
variable {S : List Spec}
section
variable {w : List Call} (ha : areS S = true) (h8 : w.length ≤ 8) (hp : w.all (playOk S) = true)
include ha h8 hp
end
end
end Go.Am

set_option maxRecDepth 100000
set_option linter.unusedVariables false
set_option linter.unusedSimpArgs false
namespace Go.Am
open Go
def alw (S : List Spec) : List Call → Int × Int → Bool
  | [], _ => true
  | c :: L, s => okS S c s && alw S L (doS S c s)
theorem allowsF_alw (S : List Spec) (h : List Call) : ∀ (l : List Int) (s : Int × Int), allowsF S h l s = alw S (l.map (hc h)) s
  | [], _ => rfl
  | x :: l, s => by simp only [allowsF, List.map_cons, alw, allowsF_alw S h l]
structure LinC (S : List Spec) (h L : List Call) : Prop where
  nd : L.Nodup
  sub : ∀ c ∈ L, c ∈ h
  full : ∀ c ∈ h, c.to ≠ 0 → c ∈ L
  keep : L.Pairwise fun y x => bef x y = false
  allow : alw S L (0, 0) = true
theorem lin_of {S : List Spec} {h : List Call} (hs : SpecsOk S) (ha : areS S = true) (hf : forH S h = true) : H26 Ar.std (eSpecs S) (eCalls h) = some (!(ords0 S h).isEmpty, 0) := by
  have he : errH S h = 0 := by simp [errH, ha, hf]
  have hl : h.length < Lg := by
    obtain ⟨h8, _⟩ := forH_in ha hf
    exact (by omega : h.length < 9223372036854775808)
  rw [H26_eq S h hs hl, he]; rfl
end Go.Am

set_option maxRecDepth 100000
set_option linter.unusedVariables false
set_option linter.unusedSimpArgs false
set_option linter.unusedSectionVars false
namespace Go.Am
open Go
section
variable {τ ρ : Type} {c : Cod τ} {l : List D}
theorem ckgtT {v w n : Int} {K : τ → Option ρ} (hw : 0 ≤ w) (hv : decide (v < w) = true) (hn : n = w) :
    ((ck (Ar.std.zle 0 v)).bind fun _ => (ck (Ar.std.zlt v n)).bind fun _ => (gc Ar.std c l (Ar.std.nat (Ar.std.zadd (Ar.std.zadd 0 0) v))).bind K) = (gt Ar.std c (l.take w.toNat) v).bind K := by
  subst hn
  rw [std_zlt, hv]
  have : v < n := by simpa using hv
  by_cases h0 : 0 ≤ v
  · have h1 : v.toNat < n.toNat := by omega
    simp [gt, gc, ck, h0, List.getElem?_take, h1]
  · simp [gt, ck, h0]
end
theorem H24aL0_eq (l : List D) (v a b c d e f : Int) (h0 : 0 ≤ v) (hv : v ≤ (l.length : Int)) : H24aL0 Ar.std 0 l v a b c d e f = H24L0 Ar.std a b c d e f (l.take v.toNat) := by
  funext w
  unfold H24aL0 H24L0
  dsimp only
  have hlen : Ar.std.len (l.take v.toNat) = v := by simp; omega
  have hs : Ar.std.zsub v 0 = v := by simp
  rw [hlen, hs]
  cases hw : Ar.std.zlt w v with
  | false => rfl
  | true =>
    rw [cond_true, cond_true]
    have := ckgtT (ρ := Int ⊕ (Unit ⊕ Unit)) (c := cCall) (l := l) (v := w) (w := v) (n := v) (K := fun (a', b', c', d', e', f') => (bif Ar.std.zeq a a' then (H66 Ar.std a b c d e f a' b' c' d' e' f').bind fun r => bif r then some false else (H66 Ar.std a' b' c' d' e' f' a b c d e f).bind fun r => some (!r) else some false).bind fun v209 => bif v209 then some (.inr (.inr ())) else some (.inl (Ar.std.wrp .i64 (Ar.std.zadd w 1)))) h0 hw rfl
    rw [hw] at this
    exact this
theorem H24aL1_eq (l : List D) : H24aL1 Ar.std 0 (l.length : Int) l = H24L1 Ar.std l := by
  funext p
  obtain ⟨v, t⟩ := p
  unfold H24aL1 H24L1
  dsimp only
  cases hv : Ar.std.zlt v (l.length : Int) with
  | false => rw [std_len, hv]; rfl
  | true =>
    have hv' : decide (v < (l.length : Int)) = true := hv
    rw [std_len, hv, cond_true, cond_true]
    have hle : v ≤ (l.length : Int) := by simp at hv'; omega
    by_cases h0 : 0 ≤ v
    · have e1 : ck (Ar.std.zle 0 v) = some () := by simp [ck, h0]
      have e2 : ck (Ar.std.zlt v (l.length : Int)) = some () := by rw [hv]; rfl
      have e3 : ck (Ar.std.zle v (l.length : Int)) = some () := by simp [ck, hle]
      have e4 : ck (Ar.std.zle 0 0) = some () := rfl
      have e5 : ∀ c : Cod Call, gc Ar.std c l (Ar.std.nat (Ar.std.zadd 0 v)) = gt Ar.std c l v := by intro c; simp [gc, gt, h0]
      have e6 : sl Ar.std l 0 v = some (l.take v.toNat) := by
        have := sl_take id l v.toNat (by omega)
        simpa [Int.toNat_of_nonneg h0] using this
      rw [hv] at e2
      simp only [e1, e2, e3, e4, e5, e6, bsome, H24aL0_eq l v _ _ _ _ _ _ h0 hle]
    · have e1 : Ar.std.zle 0 v = false := by simp; omega
      have e2 : gt Ar.std cCall l v = none := by unfold gt; rw [e1]; rfl
      rw [e1, e2]; rfl
theorem H24a_eq (l : List D) : H24a Ar.std 0 (l.length : Int) l = H24 Ar.std l := by
  unfold H24a H24
  rw [H24aL1_eq, std_len]
end Go.Am

set_option maxRecDepth 100000
set_option linter.unusedVariables false
set_option linter.unusedSimpArgs false
set_option linter.unusedSectionVars false
namespace Go.Am
open Go
def longBad (h : List Call) (i b e : Int) : Bool := !btw 0 i ((h.length : Int) - 1) || ((h[i.toNat]?).map fun c => decide (c.to = 0) || (decide (c.fr < b) || decide (e < c.to))).getD true
def longC (b e : Int) (c : Call) : Call := (c.1, c.2.1, c.2.2.1, c.2.2.2.1, b, e)
def longH (h : List Call) (i b e : Int) : List Call := (h[i.toNat]?).elim h fun c => h.set i.toNat (longC b e c)
def longR (h : List Call) (i b e : Int) : List Call × Int := bif validH h then (bif longBad h i b e then ([], 2) else bif validH (longH h i b e) then (longH h i b e, 0) else ([], 2)) else ([], 20)
theorem scalCalls (h : List Call) : scalars (eCalls h) = true := by
  simp only [scalars, eCalls, enc, List.all_map, List.all_eq_true]
  intro c _
  rfl
theorem longH_len (h : List Call) (i b e : Int) : (longH h i b e).length = h.length := by
  unfold longH; cases h[i.toNat]? <;> simp
theorem fzC (h : List Call) (n : Int) (hn : n = (h.length : Int)) : fz Ar.std (eCalls h) 0 n = some (eCalls h) := by
  subst hn
  have : (eCalls h).take h.length = eCalls h := by rw [List.take_of_length_le (by simp)]
  simp [fz, this]
theorem setC (h : List Call) (i : Nat) (x y z u v w : Int) : Ar.std.lset (eCalls h) i (.agg [(.int .i64 x), (.int .i64 y), (.int .i64 z), (.int .i64 u), (.int .i64 v), (.int .i64 w)]) = eCalls (h.set i (x, y, z, u, v, w)) := enc_set (c := cCall) h i (x, y, z, u, v, w)
section
variable {h : List Call} (hl : h.length < Lg) {i b e : Int}
include hl
theorem ask_eq {n : Int} (hn : n = (h.length : Int) - 1) : ((bif btw 0 i n then
      ((gt Ar.std cCall (eCalls h) i).bind fun (a9, a10, a11, a12, a13, a14) =>
      bif (Ar.std.zeq a14 0) then
        some true
      else
        bif (Ar.std.zlt a13 b) then
          some true
        else
          some (Ar.std.zlt e a14))
    else
      some true) : Option Bool) = some (longBad h i b e) := by
  subst hn
  unfold longBad
  cases hb : btw 0 i ((h.length : Int) - 1) with
  | false => rfl
  | true =>
    obtain ⟨c, hc, h0⟩ := btwGet hb
    rw [cond_true, gt_encI h0 hc, bsome, hc]
    simp only [std_zeq, std_zlt, Bool.not_true, Bool.false_or, Option.map_some, Option.getD_some]
    by_cases h1 : c.to = 0
    · simp [h1]
    · by_cases h2 : c.fr < b <;> simp [h1, h2]
theorem two_sets (hb : longBad h i b e = false) {ρ : Type} (K : List D → Option ρ) :
    ((ck (Ar.std.zle 0 i)).bind fun _ => (ck (Ar.std.zlt i (h.length : Int))).bind fun _ =>
    (gc Ar.std cCall (eCalls h) (Ar.std.nat (Ar.std.zadd 0 i))).bind fun (a29, a30, a31, a32, a33, a34) =>
    (ck (Ar.std.zle 0 i)).bind fun _ => (ck (Ar.std.zlt i (h.length : Int))).bind fun _ =>
    (gc Ar.std cCall (Ar.std.lset (eCalls h) (Ar.std.nat (Ar.std.zadd 0 i)) (.agg [(.int .i64 a29), (.int .i64 a30), (.int .i64 a31), (.int .i64 a32), (.int .i64 b), (.int .i64 a34)])) (Ar.std.nat (Ar.std.zadd 0 i))).bind fun (a41, a42, a43, a44, a45, a46) =>
    K (Ar.std.lset (Ar.std.lset (eCalls h) (Ar.std.nat (Ar.std.zadd 0 i)) (.agg [(.int .i64 a29), (.int .i64 a30), (.int .i64 a31), (.int .i64 a32), (.int .i64 b), (.int .i64 a34)])) (Ar.std.nat (Ar.std.zadd 0 i)) (.agg [(.int .i64 a41), (.int .i64 a42), (.int .i64 a43), (.int .i64 a44), (.int .i64 a45), (.int .i64 e)]))) = K (eCalls (longH h i b e)) := by
  unfold longBad at hb
  rw [Bool.or_eq_false_iff, Bool.not_eq_false'] at hb
  obtain ⟨hb1, _⟩ := hb
  obtain ⟨c, hc, h0⟩ := btwGet hb1
  have hlt : i.toNat < h.length := by rw [btw_true] at hb1; omega
  have e1 : ck (Ar.std.zle 0 i) = some () := by simp [ck, h0]
  have e2 : ck (Ar.std.zlt i (h.length : Int)) = some () := by rw [std_zlt, decide_eq_true (by omega)]; rfl
  have e3 : Ar.std.nat (Ar.std.zadd 0 i) = i.toNat := by simp
  have e4 : gc Ar.std cCall (eCalls h) i.toNat = some c := gc_enc hc
  have e5 : gc Ar.std cCall (eCalls (h.set i.toNat (c.1, c.2.1, c.2.2.1, c.2.2.2.1, b, c.2.2.2.2.2))) i.toNat = some (c.1, c.2.1, c.2.2.1, c.2.2.2.1, b, c.2.2.2.2.2) := gc_enc (by simp [hlt])
  have e6 : longH h i b e = h.set i.toNat (c.1, c.2.1, c.2.2.1, c.2.2.2.1, b, e) := by unfold longH; rw [hc]; rfl
  simp only [e1, e2, e3, bsome, e4, setC, e5, List.set_set, e6]
end
theorem H24a_long (h : List Call) (hl : h.length < Lg) : H24a Ar.std 0 (h.length : Int) (eCalls h) = some (validH h) := by
  have := H24a_eq (eCalls h)
  rw [enc_length] at this
  rw [this, H24_eq h hl]
theorem H90_eq (h : List Call) (hl : h.length < 4294967295) : H90 Ar.std (eCalls h) = some (eCalls h) := by
  unfold H90
  rw [ap_enc0 (by omega), bsome]
  cases h0 : Ar.std.zlt 0 (Ar.std.len (eCalls h)) with
  | true => rfl
  | false =>
    have : h = [] := by simp at h0; exact h0
    subst this
    simp [both]
theorem H91_eq (h : List Call) (hl : h.length < Lg) (i b e : Int) : H91 Ar.std (eCalls h) i b e (eCalls h) 0 (h.length : Int) = some (bif longBad h i b e then (false, eCalls h) else (validH (longH h i b e), eCalls (longH h i b e))) := by
  unfold H91
  rw [H64_eq h hl, bsome, ask_eq hl rfl, bsome]
  cases hb : longBad h i b e with
  | true => rfl
  | false =>
    rw [cond_false, cond_false]
    refine Eq.trans (two_sets hl hb (fun l => (H24a Ar.std 0 (h.length : Int) l).bind fun r50 => some (r50, l))) ?_
    have hll := longH_len h i b e
    rw [← hll, H24a_long _ (by rw [hll]; exact hl), bsome]
theorem H41_eq (h : List Call) (hl : h.length < 4294967295) (i b e : Int) : H41 Ar.std (eCalls h) i b e = some (eCalls (longR h i b e).1, (longR h i b e).2) := by
  have hlg : h.length < Lg := Nat.lt_trans hl (by decide)
  unfold H41 longR
  rw [H90_eq h hl, bsome]
  cases h0 : Ar.std.zlt 0 (Ar.std.len (eCalls h)) with
  | false =>
    have : h = [] := by simp at h0; exact h0
    subst this
    have hb : longBad [] i b e = true := by simp [longBad]
    have hv : validH [] = true := by decide
    rw [cond_false, hb, hv]
    have h24 := H24_eq [] (by decide)
    have h64 := H64_eq [] (by decide) i
    have hbt : btw 0 i ((([] : List Call).length : Int) - 1) = false := by simp [btw]; omega
    rw [hbt] at h64
    simp only [H62c, h24, hv, bsome, cond_true, H91a, h64, cond_false, std_zeq]
    rfl
  | true =>
    rw [cond_true, scalCalls, ck_true, bsome, len_enc]
    unfold H62b
    rw [H24_eq h hlg, bsome, H91_eq h hlg]
    cases hv : validH h with
    | false => rfl
    | true =>
      rw [cond_true, cond_true, bsome]
      cases hb : longBad h i b e with
      | true => rfl
      | false =>
        rw [cond_false, cond_false]
        cases hv2 : validH (longH h i b e) with
        | false => rfl
        | true =>
          have hf := fzC (longH h i b e) (h.length : Int) (by rw [longH_len])
          simp only [H80, bsome, cond_true, std_zeq, decide_true, hf]
end Go.Am

set_option maxRecDepth 100000
set_option linter.unusedVariables false
set_option linter.unusedSimpArgs false
set_option linter.unusedSectionVars false
namespace Go.Am
open Go
section
variable {h : List Call}
end
end Go.Am

set_option maxRecDepth 100000
set_option linter.unusedVariables false
set_option linter.unusedSimpArgs false
set_option linter.unusedSectionVars false
namespace Go.Am
open Go
end Go.Am

set_option maxRecDepth 100000
set_option linter.unusedVariables false
set_option linter.unusedSimpArgs false
set_option linter.unusedSectionVars false
namespace Go.Am
open Go
structure Wider (c d : Call) : Prop where
  ob : d.ob = c.ob
  op : d.op = c.op
  sa : d.sa = c.sa
  to0 : d.to = 0 ↔ c.to = 0
  fr : d.fr ≤ c.fr
  to : c.to ≤ d.to
theorem Wider.refl (c : Call) : Wider c c := ⟨rfl, rfl, rfl, Iff.rfl, Int.le_refl _, Int.le_refl _⟩
theorem Wider.ok {S : List Spec} {c d : Call} (h : Wider c d) (s : Int × Int) : okS S d s = okS S c s := by
  have h1 : d.2.1 = c.2.1 := h.ob
  have h2 : d.2.2.1 = c.2.2.1 := h.op
  have h3 : d.2.2.2.1 = c.2.2.2.1 := h.sa
  have h4 : decide (d.to = 0) = decide (c.to = 0) := decide_eq_decide.2 h.to0
  simp only [okS, nowOf, spOf, h4]
  simp only [Call.ob, Call.op, Call.sa, h1, h2, h3]
  rfl
theorem Wider.go {S : List Spec} {c d : Call} (h : Wider c d) (s : Int × Int) : doS S d s = doS S c s := by
  have h1 : d.2.1 = c.2.1 := h.ob
  have h2 : d.2.2.1 = c.2.2.1 := h.op
  simp only [doS, nowOf, spOf, Call.ob, Call.op, h1, h2]
theorem Wider.fit {S : List Spec} {c d : Call} (h : Wider c d) : fitC S d = fitC S c := by
  have h1 : d.2.1 = c.2.1 := h.ob
  have h2 : d.2.2.1 = c.2.2.1 := h.op
  simp only [fitC, Call.ob, Call.op, h1, h2]
theorem Wider.bef {c c' d d' : Call} (hc : Wider c c') (hd : Wider d d') (h : bef c d = false) : bef c' d' = false := by
  simp only [Am.bef, Bool.and_eq_false_iff, decide_eq_false_iff_not] at h ⊢
  have h1 := hc.to0
  have h2 := hc.to
  have h3 := hd.fr
  rcases h with h | h
  · left; exact fun h' => h (fun h0 => h' (h1.2 h0))
  · right; omega
theorem wider_alw {S : List Spec} {f g : Int → Call} (h : ∀ x, Wider (f x) (g x)) : ∀ (l : List Int) (s : Int × Int), alw S (l.map g) s = alw S (l.map f) s
  | [], _ => rfl
  | x :: l, s => by simp only [List.map_cons, alw, (h x).ok, (h x).go, wider_alw h l]
section
variable {S : List Spec} {h h' : List Call} (hlen : h'.length = h.length) (hw : ∀ x, Wider (hc h x) (hc h' x))
include hlen hw
theorem wider_ord {l : List Int} (ho : isOrdM S h bef l = true) : isOrdM S h' bef l = true := by
  unfold isOrdM isL at ho ⊢
  simp only [Bool.and_eq_true] at ho ⊢
  obtain ⟨⟨h1, h2⟩, h3, h4⟩ := ho
  refine ⟨⟨?_, ?_⟩, ?_, ?_⟩
  · have : nums h' l = nums h l := by
      unfold nums
      congr 2
      funext i
      unfold numsAt inH
      rw [hlen]
    rw [this]; exact h1
  · rw [full_iff] at h2 ⊢
    intro i c hi hto
    have hlt : i < h.length := by
      rw [List.getElem?_eq_some_iff] at hi; rw [← hlen]; exact hi.1
    have hci : hc h' (i : Int) = c := by simp [hc, List.getD_eq_getElem?_getD, hi]
    have hdi : hc h (i : Int) = h[i] := by simp [hc, List.getD_eq_getElem?_getD, List.getElem?_eq_getElem hlt]
    refine h2 i _ (List.getElem?_eq_getElem hlt) ?_
    have := (hw i).to0
    rw [hci, hdi] at this
    intro h0
    exact hto (this.2 h0)
  · rw [keepsL_iff] at h3 ⊢
    exact h3.imp fun {a b} hab => (hw b).bef (hw a) hab
  · unfold allowsL at h4 ⊢
    rw [allowsF_alw] at h4 ⊢
    rw [wider_alw hw]
    exact h4
end
theorem nodup_le {α : Type} [DecidableEq α] : ∀ {l m : List α}, l.Nodup → (∀ x ∈ l, x ∈ m) → l.length ≤ m.length
  | [], _, _, _ => Nat.zero_le _
  | a :: l, m, hn, hs => by
    rw [List.nodup_cons] at hn
    have ha := hs a List.mem_cons_self
    have := nodup_le (l := l) (m := m.erase a) hn.2 (fun x hx => (List.mem_erase_of_ne (by rintro rfl; exact hn.1 hx)).2 (hs x (List.mem_cons_of_mem _ hx)))
    rw [List.length_erase_of_mem ha] at this
    have h0 : 0 < m.length := List.length_pos_of_mem ha
    simp only [List.length_cons]; omega
theorem wider_count {S : List Spec} {h h' : List Call} (hlen : h'.length = h.length) (hw : ∀ x, Wider (hc h x) (hc h' x)) (hok : ∀ c ∈ h, callOk c = true) (hok' : ∀ c ∈ h', callOk c = true) :
    (ords0 S h).length ≤ (ords0 S h').length := by
  refine nodup_le (ords_nodup _ 0 (0, 0) (Nat.le_refl _)) (fun l hl => ?_)
  exact (mem_ords0 hok' (bef_must hok') l).2 (wider_ord hlen hw ((mem_ords0 hok (bef_must hok) l).1 hl))
theorem long_wider {h : List Call} {i b e : Int} (hok : ∀ c ∈ h, callOk c = true) (hb : longBad h i b e = false) (x : Int) : Wider (hc h x) (hc (longH h i b e) x) := by
  unfold longBad at hb
  rw [Bool.or_eq_false_iff, Bool.not_eq_false'] at hb
  obtain ⟨hb1, hb2⟩ := hb
  obtain ⟨c, hc', h0⟩ := btwGet hb1
  have hlt : i.toNat < h.length := by rw [btw_true] at hb1; omega
  rw [hc'] at hb2
  simp only [Option.map_some, Option.getD_some, Bool.or_eq_false_iff, decide_eq_false_iff_not] at hb2
  obtain ⟨t0, t1, t2⟩ := hb2
  have e6 : longH h i b e = h.set i.toNat (longC b e c) := by unfold longH; rw [hc']; rfl
  rw [e6]
  unfold hc
  rw [List.getD_eq_getElem?_getD, List.getD_eq_getElem?_getD, List.getElem?_set]
  by_cases hx : i.toNat = x.toNat
  · rw [if_pos hx, if_pos hlt, ← hx, hc']
    refine ⟨rfl, rfl, rfl, ?_, ?_, ?_⟩
    · show e = 0 ↔ c.to = 0
      have c1 := (callOk_iff c).1 (hok c (List.mem_of_getElem? hc'))
      omega
    · show b ≤ c.fr
      omega
    · show c.to ≤ e
      omega
  · rw [if_neg hx]; exact Wider.refl _
end Go.Am

set_option maxRecDepth 100000
set_option linter.unusedVariables false
set_option linter.unusedSimpArgs false
set_option linter.unusedSectionVars false
namespace Go.Am
open Go
theorem long_for {S : List Spec} {h : List Call} {i b e : Int} (hf : forH S h = true) (hb : longBad h i b e = false) (hv : validH (longH h i b e) = true) : forH S (longH h i b e) = true := by
  simp only [forH, Bool.and_eq_true, List.all_eq_true] at hf ⊢
  refine ⟨hv, fun c hc' => ?_⟩
  obtain ⟨j, hj, rfl⟩ := List.getElem_of_mem hc'
  have hj' : j < h.length := by rw [longH_len] at hj; exact hj
  have hw := long_wider (validH_ok hf.1).2 hb (j : Int)
  have e1 : hc h (j : Int) = h[j] := by simp [hc, List.getD_eq_getElem?_getD, List.getElem?_eq_getElem hj']
  have e2 : hc (longH h i b e) (j : Int) = (longH h i b e)[j] := by simp [hc, List.getD_eq_getElem?_getD, List.getElem?_eq_getElem hj]
  rw [e1, e2] at hw
  rw [hw.fit]
  exact hf.2 _ (List.getElem_mem hj')
theorem long_count {S : List Spec} {h : List Call} {i b e : Int} (hv0 : validH h = true) (hb : longBad h i b e = false) (hv : validH (longH h i b e) = true) : (ords0 S h).length ≤ (ords0 S (longH h i b e)).length :=
  wider_count (longH_len h i b e) (long_wider (validH_ok hv0).2 hb) (validH_ok hv0).2 (validH_ok hv).2
theorem H30_of {S : List Spec} {h : List Call} (hs : SpecsOk S) (ha : areS S = true) (hf : forH S h = true) : H30 Ar.std (eSpecs S) (eCalls h) = some (((ords0 S h).length : Int), 0) := by
  have he : errH S h = 0 := by simp [errH, ha, hf]
  have hl : h.length < Lg := by
    obtain ⟨h8, _⟩ := forH_in ha hf
    exact (by omega : h.length < 9223372036854775808)
  rw [H30_eq S h hs hl, he]; rfl
theorem longR_cases {h : List Call} (hv : validH h = true) (i b e : Int) : longR h i b e = ([], 2) ∨ longR h i b e = (longH h i b e, 0) ∧ longBad h i b e = false ∧ validH (longH h i b e) = true := by
  unfold longR
  rw [hv, cond_true]
  cases hb : longBad h i b e with
  | true => exact .inl rfl
  | false =>
    cases hv2 : validH (longH h i b e) with
    | false => exact .inl rfl
    | true => exact .inr ⟨rfl, rfl, rfl⟩
theorem H13_ok (S : List Spec) (h : List Call) (hs : SpecsOk S) (hl : h.length < Lg) (x y z : Int) (hx : 0 ≤ x ∧ x < 256) (hy : 0 ≤ y ∧ y < 256) (hz : 0 ≤ z ∧ z < 256) : H13 Ar.std (eSpecs S) (eCalls h) x y z = some true := by
  unfold H13
  rw [H17_eq S hs, H18_eq, H39_eq S hs hl, H19_eq, bsome]
  cases largeS S with
  | true => rfl
  | false =>
  rw [cond_false, bsome]
  cases decide (40 < (h.length : Int)) with
  | true => rfl
  | false =>
  rw [cond_false, bsome]
  cases hfor : areS S && forH S h with
  | false => rfl
  | true =>
  rw [cond_true, bsome, len_enc, std_zeq]
  by_cases h0 : (h.length : Int) = 0
  · rw [decide_eq_true h0]; rfl
  · rw [decide_eq_false h0, cond_false]
    rw [Bool.and_eq_true] at hfor
    obtain ⟨ha, hf⟩ := hfor
    obtain ⟨h8, hok2⟩ := forH_in ha hf
    have hv : validH h = true := by simp only [forH, Bool.and_eq_true] at hf; exact hf.1
    have hi : Ar.std.rem (Ar.std.wrp .i64 x) (h.length : Int) = x % (h.length : Int) := by
      rw [std_wrp, i64w x (by omega) (by omega), std_rem, Int.tmod_eq_emod_of_nonneg hx.1]
    rw [hi]
    generalize hj : x % (h.length : Int) = j
    have hj0 : 0 ≤ j := by rw [← hj]; exact Int.emod_nonneg _ h0
    have hj1 : j < (h.length : Int) := by rw [← hj]; exact Int.emod_lt_of_pos _ (by omega)
    have hjl : j.toNat < h.length := by omega
    have hc := List.getElem?_eq_getElem hjl
    generalize h[j.toNat] = c at hc
    have nk0 : nk false = some () := rfl
    have n8 : nk (Ar.std.zeq 8 0) = some () := rfl
    rw [nk0, bsome, gt_encI hj0 hc, bsome]
    dsimp only
    rw [n8, bsome, bsome]
    generalize hb : Ar.std.zmax (Ar.std.wrp .i64 (Ar.std.zsub c.2.2.2.2.1 (Ar.std.rem (Ar.std.wrp .i64 y) 8))) 1 = b
    generalize he : Ar.std.wrp .i64 (Ar.std.zadd c.2.2.2.2.2 (Ar.std.rem (Ar.std.wrp .i64 z) 8)) = e
    rw [lin_of hs ha hf, bsome]
    dsimp only
    rw [H30_of hs ha hf, bsome]
    dsimp only
    have z0 : Ar.std.zeq 0 0 = true := rfl
    rw [z0, cond_true, Bool.not_true, bsome, cond_false, H41_eq h (by omega), bsome]
    dsimp only
    rcases longR_cases hv j b e with e1 | ⟨e1, hbad, hv2⟩
    · rw [e1]; rfl
    · rw [e1]
      have hf2 := long_for hf hbad hv2
      have hcount := long_count (S := S) hv hbad hv2
      have hle : Ar.std.zle ((ords0 S h).length : Int) ((ords0 S (longH h j b e)).length : Int) = true := by
        rw [std_zle]; exact decide_eq_true (by omega)
      rw [z0, cond_true, lin_of hs ha hf2, bsome]
      dsimp only
      rw [H30_of hs ha hf2, bsome]
      dsimp only
      rw [z0, cond_true, cond_true, hle, cond_true, bsome]
      cases hemp : (ords0 S h) with
      | nil => rfl
      | cons a r =>
        cases hemp2 : (ords0 S (longH h j b e)) with
        | nil => rw [hemp, hemp2] at hcount; simp at hcount
        | cons a' r' => rfl
end Go.Am
