/- Own text: HL22. -/
import Derived.Test.YtlpolnmadfmphaaHL3
import Derived.Test.YtlpolnmadfmphaaAmBit
set_option maxRecDepth 100000
set_option linter.unusedVariables false
set_option linter.unusedSimpArgs false
namespace Go.Am
open Go
def nx (t : Tab) (now op : Int) : Int := (t.getD now.toNat []).getD op.toNat 0
def spOf (S : List Spec) (c : Call) : Spec := S.getD c.ob.toNat (0, 0, [], [])
def nowOf (c : Call) (s : Int × Int) : Int := bif decide (c.ob = 0) then s.1 else s.2
def doS (S : List Spec) (c : Call) (s : Int × Int) : Int × Int := bif decide (c.ob = 0) then (nx (spOf S c).2.2.1 (nowOf c s) c.op, s.2) else (s.1, nx (spOf S c).2.2.1 (nowOf c s) c.op)
def okS (S : List Spec) (c : Call) (s : Int × Int) : Bool := decide (c.to = 0) || decide (nx (spOf S c).2.2.2 (nowOf c s) c.op = c.sa)
def stOk (S : List Spec) (s : Int × Int) : Prop := (∀ x, S[0]? = some x → 0 ≤ s.1 ∧ s.1 < x.1) ∧ ∀ x, S[1]? = some x → 0 ≤ s.2 ∧ s.2 < x.1
def callIn (S : List Spec) (c : Call) : Prop := (c.ob = 0 ∨ c.ob = 1) ∧ ∃ x, S[c.ob.toNat]? = some x ∧ specOk x = true ∧ 0 ≤ c.op ∧ c.op < x.2.1
theorem tab_get {st ops lim : Int} {t : Tab} (h : tabOk st ops lim t = true) {now op : Int} (h1 : 0 ≤ now) (h2 : now < st) (h3 : 0 ≤ op) (h4 : op < ops) :
    ∃ r, t[now.toNat]? = some r ∧ r[op.toNat]? = some (nx t now op) ∧ 0 ≤ nx t now op ∧ nx t now op ≤ lim := by
  simp only [tabOk, Bool.and_eq_true, decide_eq_true_eq, List.all_eq_true] at h
  obtain ⟨hl, hr⟩ := h
  have hlt : now.toNat < t.length := by omega
  have hrow := hr _ (List.getElem_mem hlt)
  simp only [rowOk, Bool.and_eq_true, decide_eq_true_eq, List.all_eq_true] at hrow
  have hlt2 : op.toNat < t[now.toNat].length := by omega
  have hn := hrow.2 _ (List.getElem_mem hlt2)
  rw [btw_true] at hn
  have e : nx t now op = t[now.toNat][op.toNat] := by
    simp only [nx, List.getD_eq_getElem?_getD, List.getElem?_eq_getElem hlt, Option.getD_some, List.getElem?_eq_getElem hlt2]
  refine ⟨_, List.getElem?_eq_getElem hlt, ?_, ?_⟩
  · rw [e]; exact List.getElem?_eq_getElem hlt2
  · rw [e]; exact hn
theorem specOk_iff (x : Spec) : specOk x = true ↔ (1 ≤ x.1 ∧ x.1 ≤ 8) ∧ (1 ≤ x.2.1 ∧ x.2.1 ≤ 4) ∧ tabOk x.1 x.2.1 (x.1 - 1) x.2.2.1 = true ∧ tabOk x.1 x.2.1 5 x.2.2.2 = true := by
  simp only [specOk, Bool.and_eq_true, btw_true]
theorem callIn_now {S : List Spec} {c : Call} (hc : callIn S c) {s : Int × Int} (hs : stOk S s) : ∃ x, S[c.ob.toNat]? = some x ∧ spOf S c = x ∧ specOk x = true ∧ 0 ≤ nowOf c s ∧ nowOf c s < x.1 ∧ 0 ≤ c.op ∧ c.op < x.2.1 := by
  obtain ⟨hob, x, hx, hsx, h1, h2⟩ := hc
  refine ⟨x, hx, by simp [spOf, List.getD_eq_getElem?_getD, hx], hsx, ?_⟩
  rcases hob with h | h
  · have q := hs.1 x (by rw [h] at hx; exact hx)
    simp only [nowOf, h, decide_true, cond_true]; exact ⟨q.1, q.2, h1, h2⟩
  · have q := hs.2 x (by rw [h] at hx; exact hx)
    have hz : decide ((1 : Int) = 0) = false := rfl
    simp only [nowOf, h, hz, cond_false]; exact ⟨q.1, q.2, h1, h2⟩
theorem doS_ok {S : List Spec} {c : Call} (hc : callIn S c) {s : Int × Int} (hs : stOk S s) : stOk S (doS S c s) := by
  obtain ⟨x, hx, e, hsx, h1, h2, h3, h4⟩ := callIn_now hc hs
  obtain ⟨_, _, t1, _⟩ := (specOk_iff x).1 hsx
  obtain ⟨r, _, _, g3, g4⟩ := tab_get t1 h1 h2 h3 h4
  unfold doS
  rw [e]
  rcases hc.1 with h | h
  · simp only [h, decide_true, cond_true]
    refine ⟨fun y hy => ?_, hs.2⟩
    rw [h] at hx
    have : y = x := by have := hx.symm.trans (show S[(0 : Int).toNat]? = some y from hy); exact (Option.some.inj this).symm
    subst this; exact ⟨g3, by omega⟩
  · have hz : decide ((1 : Int) = 0) = false := rfl
    simp only [h, hz, cond_false]
    refine ⟨hs.1, fun y hy => ?_⟩
    rw [h] at hx
    have : y = x := by have := hx.symm.trans (show S[(1 : Int).toNat]? = some y from hy); exact (Option.some.inj this).symm
    subst this; exact ⟨g3, by omega⟩
theorem H78a_eq {S : List Spec} {c : Call} (hc : callIn S c) {s : Int × Int} (hs : stOk S s) : H78a Ar.std s.1 s.2 (eSpecs S) c.1 c.2.1 c.2.2.1 c.2.2.2.1 c.2.2.2.2.1 c.2.2.2.2.2 = some ((doS S c s).1, (doS S c s).2, okS S c s) := by
  obtain ⟨x, hx, e, hsx, h1, h2, h3, h4⟩ := callIn_now hc hs
  obtain ⟨_, _, t1, t2⟩ := (specOk_iff x).1 hsx
  obtain ⟨r, g1, g2, g3, g4⟩ := tab_get t1 h1 h2 h3 h4
  obtain ⟨q, k1, k2, k3, k4⟩ := tab_get t2 h1 h2 h3 h4
  have hob : 0 ≤ c.2.1 := by rcases hc.1 with h | h <;> simp only [Call.ob] at h <;> omega
  have e1 := gt_eSpecsI (l := S) hob hx
  have e2 := gt_eTabI h1 g1
  have e3 := gt_encI (c := cI .i64) (l := r) h3 g2
  have e4 := gt_eTabI h1 k1
  have e5 := gt_encI (c := cI .i64) (l := q) h3 k2
  simp only [H78a, e1, bsome, std_zeq]
  rcases hc.1 with h | h
  · simp only [Call.ob] at h
    simp only [nowOf, Call.ob, h, decide_true, cond_true] at e2 e3 e4 e5
    simp only [h, decide_true, cond_true, bsome, e2, e3, e4, e5, cond_some, doS, okS, Call.ob, e, nowOf]
    cases decide (c.2.2.2.2.2 = 0) <;> simp
  · simp only [Call.ob] at h
    have hz : decide ((1 : Int) = 0) = false := rfl
    simp only [nowOf, Call.ob, h, hz, cond_false] at e2 e3 e4 e5
    simp only [h, hz, decide_true, cond_true, cond_false, bsome, e2, e3, e4, e5, cond_some, doS, okS, Call.ob, e, nowOf]
    cases decide (c.2.2.2.2.2 = 0) <;> simp
theorem forH_in {S : List Spec} {h : List Call} (ha : areS S = true) (hf : forH S h = true) : h.length ≤ 8 ∧ ∀ c ∈ h, callOk c = true ∧ callIn S c := by
  simp only [forH, Bool.and_eq_true, List.all_eq_true] at hf
  simp only [areS, Bool.and_eq_true, btw_true, List.all_eq_true] at ha
  obtain ⟨h1, h2⟩ := validH_ok hf.1
  refine ⟨h1, fun c hc => ⟨h2 c hc, ?_⟩⟩
  have hcc := (callOk_iff c).1 (h2 c hc)
  refine ⟨by omega, ?_⟩
  have := hf.2 c hc
  unfold fitC at this
  cases hx : S[c.ob.toNat]? with
  | none => rw [hx] at this; cases this
  | some x =>
    rw [hx] at this
    exact ⟨x, rfl, ha.2 x (List.mem_of_getElem? hx), hcc.2.2.1.1, by simpa using this⟩
theorem stOk_zero {S : List Spec} (ha : areS S = true) : stOk S (0, 0) := by
  simp only [areS, Bool.and_eq_true, btw_true, List.all_eq_true] at ha
  constructor <;> intro x hx <;> have := ((specOk_iff x).1 (ha.2 x (List.mem_of_getElem? hx))).1 <;> (refine ⟨by decide, ?_⟩) <;> show (0 : Int) < x.1 <;> omega
section
variable (S : List Spec) (h : List Call) (must : Call → Call → Bool)
def endsM (m : Nat) : Bool := !(List.range h.length).any fun i => (h[i]?.map fun c => decide (0 < c.to) && !m.testBit i).getD false
def freeM (m i : Nat) (c : Call) : Bool := !m.testBit i && (List.range h.length).all fun k => m.testBit k || (h[k]?.map fun d => !must d c).getD true
def nextM (m : Nat) (s : Int × Int) (i : Nat) : Option (Nat × Int × Int) := h[i]?.bind fun c => bif freeM h must m i c && okS S c s then some (ins m i, doS S c s) else none
def dfs : Nat → Nat → Int × Int → List (List Nat)
  | 0, m, s => bif endsM h m then [[]] else []
  | f + 1, m, s => (bif endsM h m then [[]] else []) ++ (List.range h.length).flatMap fun i => ((nextM S h must m s i).map fun p => (dfs f p.1 p.2).map (i :: ·)).getD []
def room (m : Nat) : Nat := (List.range h.length).countP fun i => !m.testBit i
def ords (m : Nat) (s : Int × Int) : List (List Nat) := dfs S h must (room h m) m s
end
theorem countP_lt' {p p' : Nat → Bool} {i : Nat} {l : List Nat} (hn : l.Nodup) (hi : i ∈ l) (hp : p i = true) (hp' : p' i = false) (hne : ∀ k, k ≠ i → p' k = p k) : l.countP p' + 1 = l.countP p := by
  induction l with
  | nil => simp at hi
  | cons k r ih =>
    simp only [List.nodup_cons] at hn
    simp only [List.countP_cons]
    by_cases hk : k = i
    · subst hk
      have : r.countP p' = r.countP p := List.countP_congr fun q hq => by rw [hne q (by rintro rfl; exact hn.1 hq)]
      simp [hp, hp', this]
    · have hir : i ∈ r := by rcases List.mem_cons.1 hi with h | h; exact absurd h.symm hk; exact h
      have := ih hn.2 hir
      rw [hne k hk]; omega
theorem room_ins {h : List Call} {m i : Nat} (hi : i < h.length) (hm : m.testBit i = false) : room h (ins m i) + 1 = room h m := by
  refine countP_lt' List.nodup_range (List.mem_range.2 hi) (by simp [hm]) (by simp [ins_test]) fun k hk => ?_
  have : ¬ i = k := fun e => hk e.symm
  simp [ins_test, this]
theorem nextM_some {S : List Spec} {h : List Call} {must : Call → Call → Bool} {m : Nat} {s : Int × Int} {i : Nat} {p : Nat × Int × Int} (hp : nextM S h must m s i = some p) :
    ∃ c, h[i]? = some c ∧ i < h.length ∧ m.testBit i = false ∧ freeM h must m i c = true ∧ okS S c s = true ∧ p = (ins m i, doS S c s) := by
  unfold nextM at hp
  cases hc : h[i]? with
  | none => rw [hc] at hp; cases hp
  | some c =>
    rw [hc] at hp
    simp only [Option.bind_some] at hp
    cases hf : freeM h must m i c <;> cases ho : okS S c s <;> simp [hf, ho] at hp
    refine ⟨c, rfl, (List.getElem?_eq_some_iff.1 hc).1, ?_, hf, ho, hp.symm⟩
    simp only [freeM, Bool.and_eq_true] at hf
    simpa using hf.1
theorem ords_eq (S : List Spec) (h : List Call) (must : Call → Call → Bool) (m : Nat) (s : Int × Int) :
    ords S h must m s = (bif endsM h m then [[]] else []) ++ (List.range h.length).flatMap fun i => ((nextM S h must m s i).map fun p => (ords S h must p.1 p.2).map (i :: ·)).getD [] := by
  have hstep : ∀ i, ((nextM S h must m s i).map fun p => (ords S h must p.1 p.2).map (i :: ·)) = (nextM S h must m s i).map fun p => (dfs S h must (room h m - 1) p.1 p.2).map (i :: ·) := by
    intro i
    cases hn : nextM S h must m s i with
    | none => rfl
    | some p =>
      obtain ⟨c, hc, hi, ht, _, _, rfl⟩ := nextM_some hn
      have := room_ins hi ht
      simp only [Option.map_some, ords]
      rw [show room h (ins m i) = room h m - 1 by omega]
  unfold ords at hstep ⊢
  cases hr : room h m with
  | zero =>
    have : ∀ i ∈ List.range h.length, ((nextM S h must m s i).map fun p => (dfs S h must (room h p.1) p.1 p.2).map (i :: ·)).getD [] = [] := by
      intro i hi
      cases hn : nextM S h must m s i with
      | none => rfl
      | some p =>
        obtain ⟨c, hc, hi, ht, _, _, rfl⟩ := nextM_some hn
        have := room_ins hi ht
        omega
    rw [flatMap_cong this]
    simp [dfs]
  | succ f =>
    rw [hr] at hstep
    simp only [Nat.add_sub_cancel] at hstep
    simp only [dfs, hstep]
end Go.Am

set_option maxRecDepth 100000
set_option linter.unusedVariables false
set_option linter.unusedSimpArgs false
namespace Go.Am
open Go
theorem H124a_eq {m i : Nat} (hm : m < 256) (hi : i ≤ 8) : H124a Ar.std (m : Int) (i : Int) = some (m.testBit i) := by
  have h0 : decide ((i : Int) < 0) = false := by simp
  simp only [H124a, std_zlt, h0, nk_false, bsome, std_zeq, std_bits, std_shr, has_u8 m i hm hi]
def keyP (m : Nat) (s : Int × Int) : D := .agg [.int .u8 m, .int .i64 s.1, .int .i64 s.2]
theorem keyP_inj {m m' : Nat} {s s' : Int × Int} (h : keyP m s = keyP m' s') : m = m' ∧ s = s' := by
  simp only [keyP, D.agg.injEq, List.cons.injEq, D.int.injEq, true_and, and_true] at h
  exact ⟨by omega, Prod.ext h.2.1 h.2.2⟩
def GoodM (S : List Spec) (h : List Call) (must : Call → Call → Bool) (mp : List (D × D)) : Prop := ∀ (m : Nat) (s : Int × Int) (v : D), Am.mget mp (keyP m s) = some v → v = .int .i64 ((ords S h must m s).length : Int)
theorem GoodM.nil (S : List Spec) (h : List Call) (must : Call → Call → Bool) : GoodM S h must [] := fun m s v hv => by simp [Am.mget] at hv
theorem GoodM.put {S : List Spec} {h : List Call} {must : Call → Call → Bool} {mp : List (D × D)} (hg : GoodM S h must mp) (m : Nat) (s : Int × Int) : GoodM S h must (Am.mput mp (keyP m s) (.int .i64 ((ords S h must m s).length : Int))) := by
  intro m' s' v hv
  rw [mget_mput] at hv
  split at hv
  · rename_i e
    obtain ⟨rfl, rfl⟩ := keyP_inj e
    exact (Option.some.inj hv).symm
  · exact hg m' s' v hv
def contr (S : List Spec) (h : List Call) (must : Call → Call → Bool) (m : Nat) (s : Int × Int) (i : Nat) : Nat := ((nextM S h must m s i).map fun p => (ords S h must p.1 p.2).length).getD 0
theorem ords_len (S : List Spec) (h : List Call) (must : Call → Call → Bool) (m : Nat) (s : Int × Int) : (ords S h must m s).length = (bif endsM h m then 1 else 0) + ((List.range h.length).map (contr S h must m s)).sum := by
  rw [ords_eq, List.length_append, List.length_flatMap]
  congr 1
  · cases endsM h m <;> rfl
  · congr 1
    refine List.map_congr_left fun i _ => ?_
    unfold contr
    cases nextM S h must m s i <;> simp
theorem sum_le {f : Nat → Nat} {n : Nat} : ∀ {i : Nat}, i ≤ n → ((List.range i).map f).sum ≤ ((List.range n).map f).sum := by
  intro i hi
  obtain ⟨k, rfl⟩ : ∃ k, n = i + k := ⟨n - i, by omega⟩
  rw [List.range_add, List.map_append, List.sum_append]
  omega
theorem dfs_len (S : List Spec) (h : List Call) (must : Call → Call → Bool) (hl : h.length ≤ 8) : ∀ (f m : Nat) (s : Int × Int), (dfs S h must f m s).length ≤ 9 ^ (f + 1) := by
  intro f
  induction f with
  | zero => intro m s; simp only [dfs]; cases endsM h m <;> simp
  | succ f ih =>
    intro m s
    have hs : ∀ l : List Nat, ((l.flatMap fun i => ((nextM S h must m s i).map fun p => (dfs S h must f p.1 p.2).map (i :: ·)).getD [])).length ≤ l.length * 9 ^ (f + 1) := by
      intro l
      induction l with
      | nil => simp
      | cons i l ihl =>
        rw [List.flatMap_cons, List.length_append, List.length_cons, Nat.succ_mul]
        have : (((nextM S h must m s i).map fun p => (dfs S h must f p.1 p.2).map (i :: ·)).getD []).length ≤ 9 ^ (f + 1) := by
          cases nextM S h must m s i with
          | none => simp
          | some p => simpa using ih p.1 p.2
        omega
    have h1 := hs (List.range h.length)
    simp only [dfs, List.length_append]
    have h2 : (bif endsM h m then [[]] else [] : List (List Nat)).length ≤ 1 := by cases endsM h m <;> simp
    have h3 : (List.range h.length).length * 9 ^ (f + 1) ≤ 8 * 9 ^ (f + 1) := Nat.mul_le_mul_right _ (by simpa using hl)
    have h4 : 9 ^ (f + 1 + 1) = 9 * 9 ^ (f + 1) := by rw [Nat.pow_succ]; omega
    have h5 : 1 ≤ 9 ^ (f + 1) := Nat.one_le_pow _ _ (by decide)
    omega
theorem ords_lt (S : List Spec) (h : List Call) (must : Call → Call → Bool) (hl : h.length ≤ 8) (m : Nat) (s : Int × Int) : (ords S h must m s).length < 1000000000 := by
  have h1 := dfs_len S h must hl (room h m) m s
  have h2 : room h m ≤ 8 := by
    have := List.countP_le_length (p := fun i => !m.testBit i) (l := List.range h.length)
    unfold room; rw [List.length_range] at this; omega
  have h3 : 9 ^ (room h m + 1) ≤ 9 ^ 9 := Nat.pow_le_pow_right (by decide) (by omega)
  have h4 : (9 : Nat) ^ 9 = 387420489 := by decide
  unfold ords; omega
def way (S : List Spec) (h : List Call) (must : Call → Call → Bool) (m : Nat) (s : Int × Int) : List Nat := ((ords S h must m s).head?).getD []
section
variable {S : List Spec} {h : List Call}
theorem H115a_eq (hl : h.length ≤ 8) {m : Nat} (hm : m < 256) (s1 s2 : Int) (mp : List (D × D)) (x : List D) : H115a Ar.std (m : Int) s1 s2 mp x (eCalls h) = some (endsM h m) := by
  have e : iter (H115aL0 Ar.std (m : Int) (eCalls h)) 0 = some (bif (List.range h.length).any (fun i => (h[i]?.map fun c => decide (0 < c.to) && !m.testBit i).getD false) then .inr () else .inl ()) := by
    refine iter_rng h.length _ _ _ (fun i hi => ?_) ?_
    · have hc := List.getElem?_eq_getElem hi
      generalize h[i] = c at hc
      simp only [H115aL0, std_zlt, len_enc, ltC hi, cond_true, gt_enc hc, bsome, H124a_eq hm (by omega : i ≤ 8), std_wrp, std_zadd, wrap1 hi (by omega), hc, Option.map_some, Option.getD_some, Call.to]
      cases decide (0 < c.2.2.2.2.2) <;> cases m.testBit i <;> rfl
    · simp [H115aL0]
  simp only [H115a, e, bsome, endsM]
  cases (List.range h.length).any _ <;> rfl
theorem H125aL0_eq (hl : h.length ≤ 8) (hok : ∀ c ∈ h, callOk c = true) {m : Nat} (hm : m < 256) {i : Nat} {c : Call} (hi : i ≤ 8) :
    iter (H125aL0 Ar.std (eCalls h) (m : Int) c.1 c.2.1 c.2.2.1 c.2.2.2.1 c.2.2.2.2.1 c.2.2.2.2.2) (!m.testBit i, 0) = some (freeM h bef m i c) := by
  have := iter_fold (step := H125aL0 Ar.std (eCalls h) (m : Int) c.1 c.2.1 c.2.2.1 c.2.2.2.1 c.2.2.2.2.1 c.2.2.2.2.2) (List.range h.length) (fun (s : Bool) k => (s, (k : Int))) (fun s k => s && (m.testBit k || (h[k]?.map fun d => !bef d c).getD true)) id
    (fun k j s hj hk => by
      have hkj : k = j := by rw [List.getElem?_range (by simpa using hk)] at hj; exact Option.some.inj hj
      subst hkj
      have hk' : k < h.length := by simpa using hk
      have hd := List.getElem?_eq_getElem hk'
      have hdm := List.getElem_mem hk'
      generalize h[k] = d at hd hdm
      have hto : 0 ≤ d.to := by have := (callOk_iff d).1 (hok d hdm); omega
      simp only [H125aL0, std_zlt, len_enc, ltC hk', cond_true, gt_enc hd, bsome, H124a_eq hm (by omega : k ≤ 8), H66_eq d c hto, std_wrp, std_zadd, wrap1 hk' (by omega), hd, Option.map_some, Option.getD_some]
      cases s <;> cases m.testBit k <;> cases bef d c <;> rfl)
    (fun s => by simp [H125aL0]) (!m.testBit i)
  rw [show ((!m.testBit i, 0) : Bool × Int) = (!m.testBit i, ((0 : Nat) : Int)) from rfl, this, foldl_and]
  rfl
theorem H74_ok (hl : h.length ≤ 8) (hok : ∀ c ∈ h, callOk c = true ∧ callIn S c) : ∀ (n m : Nat) (s : Int × Int) (mp : List (D × D)), room h m < n → m < 256 → stOk S s → GoodM S h bef mp →
    ∃ mp', GoodM S h bef mp' ∧ H74R Ar.std n (m : Int) s.1 s.2 mp (eSpecs S) (eCalls h) = some (((ords S h bef m s).length : Int), mp') := by
  intro n
  induction n with
  | zero => intro m s mp hr; omega
  | succ n ih =>
    intro m s mp hr hm hs hg
    show ∃ mp', GoodM S h bef mp' ∧ H74B Ar.std (H74R Ar.std n) (m : Int) s.1 s.2 mp (eSpecs S) (eCalls h) = some (((ords S h bef m s).length : Int), mp')
    have hmd : ((ords S h bef m s).length : Int) < 1000000000 := by have := ords_lt S h bef hl m s; omega
    unfold H74B
    cases hk : Am.mget mp (keyP m s) with
    | some v =>
      have hv := hg m s v hk
      refine ⟨mp, hg, ?_⟩
      have : lk Ar.std (cI .i64) mp (.agg [.int .u8 (m : Int), .int .i64 s.1, .int .i64 s.2]) = some (some ((ords S h bef m s).length : Int)) := by
        show (Am.mget mp (keyP m s)).elim _ _ = _
        rw [hk, hv]; simp
      rw [this]
      rfl
    | none =>
      have : lk Ar.std (cI .i64) mp (.agg [.int .u8 (m : Int), .int .i64 s.1, .int .i64 s.2]) = some none := by
        show (Am.mget mp (keyP m s)).elim _ _ = _
        rw [hk]; rfl
      rw [this]
      simp only [bsome, Option.elim_none, cond_false, H115a_eq hl hm, cond_some, H116c]
      
      have hloop := iter_rel (step := H125aL1 Ar.std (eSpecs S) (eCalls h) (m : Int) s.1 s.2 (H74R Ar.std n)) h.length (fun (q : List (D × D) × Int) i => ((i : Int), q.1, q.2))
        (fun i q => GoodM S h bef q.1 ∧ q.2 = (bif endsM h m then 1 else 0 : Int) + (((List.range i).map (contr S h bef m s)).sum : Int)) (fun q => (q.1, q.2))
        (fun i q hi hR => by
          obtain ⟨q1, q2⟩ := q
          obtain ⟨hg1, rfl⟩ := hR
          have hc := List.getElem?_eq_getElem hi
          have hcm := List.getElem_mem hi
          generalize h[i] = c at hc hcm
          obtain ⟨hcok, hcin⟩ := hok c hcm
          have hsum : ((List.range (i + 1)).map (contr S h bef m s)).sum = ((List.range i).map (contr S h bef m s)).sum + contr S h bef m s i := by
            rw [List.range_succ, List.map_append, List.sum_append]; simp
          have hle := ords_len S h bef m s
          have hle2 : ((List.range (i + 1)).map (contr S h bef m s)).sum ≤ _ := sum_le (f := contr S h bef m s) hi
          have hlt2 := ords_lt S h bef hl m s
          simp only [H125aL1, std_zlt, len_enc, ltC hi, cond_true, gt_enc hc, bsome, H124a_eq hm (by omega : i ≤ 8), H125aL0_eq hl (fun c hc => (hok c hc).1) hm (by omega : i ≤ 8), std_wrp, std_zadd, wrap1 hi (by omega)]
          cases hf : freeM h bef m i c with
          | false =>
            have h0 : contr S h bef m s i = 0 := by simp [contr, nextM, hc, hf]
            refine ⟨(q1, _), ⟨hg1, by simp only [hsum, h0, Nat.add_zero]⟩, ?_⟩
            simp only [cond_false, bsome]
          | true =>
            have ht : m.testBit i = false := by simp only [freeM, Bool.and_eq_true] at hf; simpa using hf.1
            simp only [cond_true, H78a_eq hcin hs, bsome]
            cases ho : okS S c s with
            | false =>
              have h0 : contr S h bef m s i = 0 := by simp [contr, nextM, hc, ho]
              refine ⟨(q1, _), ⟨hg1, by simp only [hsum, h0, Nat.add_zero]⟩, ?_⟩
              simp only [cond_false, bsome]
            | true =>
              have hn : nextM S h bef m s i = some (ins m i, doS S c s) := by simp [nextM, hc, hf, ho]
              have h0 : contr S h bef m s i = (ords S h bef (ins m i) (doS S c s)).length := by simp [contr, hn]
              have hz : decide ((i : Int) < 0) = false := by simp
              obtain ⟨mp2, hg2, e2⟩ := ih (ins m i) (doS S c s) q1 (by have := room_ins hi ht; omega) (ins_lt (n := 8) hm (by omega)) (doS_ok hcin hs) hg1
              have hins : Ar.std.bits .or .u8 (m : Int) (Ar.std.shl .u8 1 (i : Int)) = ((ins m i : Nat) : Int) := ins_u8 m i hm (by omega)
              refine ⟨(mp2, _), ⟨hg2, rfl⟩, ?_⟩
              simp only [cond_true, hz, nk_false, bsome, hins, e2]
              have hw : IntKind.i64.wrap ((bif endsM h m then 1 else 0 : Int) + (((List.range i).map (contr S h bef m s)).sum : Int) + ((ords S h bef (ins m i) (doS S c s)).length : Int)) = (bif endsM h m then 1 else 0 : Int) + (((List.range (i + 1)).map (contr S h bef m s)).sum : Int) := by
                rw [hsum, h0]
                rw [hsum, h0] at hle2
                cases he : endsM h m <;> simp only [he, cond_true, cond_false] at hle ⊢ <;> (rw [i64w _ (by omega) (by omega)]; omega)
              rw [hw])
        (fun q hR => by simp [H125aL1]) (mp, (bif endsM h m then 1 else 0 : Int)) ⟨hg, by simp⟩
      obtain ⟨q, ⟨hg1, hq2⟩, hit⟩ := hloop
      have htot : q.2 = ((ords S h bef m s).length : Int) := by
        rw [hq2, ords_len]; cases endsM h m <;> simp
      simp only [H125a]
      have hit' : iter (H125aL1 Ar.std (eSpecs S) (eCalls h) (m : Int) s.1 s.2 (H74R Ar.std n)) (0, mp, bif endsM h m then 1 else 0) = some (q.1, q.2) := hit
      rw [hit']
      refine ⟨Am.mput q.1 (keyP m s) (.int .i64 ((ords S h bef m s).length : Int)), hg1.put m s, ?_⟩
      simp only [bsome, htot, std_mput]
      rfl
theorem H74_eq (hl : h.length ≤ 8) (hok : ∀ c ∈ h, callOk c = true ∧ callIn S c) {m : Nat} {s : Int × Int} {mp : List (D × D)} (hm : m < 256) (hs : stOk S s) (hg : GoodM S h bef mp) :
    ∃ mp', GoodM S h bef mp' ∧ H74 Ar.std (m : Int) s.1 s.2 mp (eSpecs S) (eCalls h) = some (((ords S h bef m s).length : Int), mp') := by
  have hr : room h m < fuel := by
    have := List.countP_le_length (p := fun i => !m.testBit i) (l := List.range h.length)
    rw [List.length_range] at this
    rw [fuel_eq]; unfold room; omega
  exact H74_ok hl hok fuel m s mp hr hm hs hg
end
section
variable {S : List Spec} {h : List Call}
end
end Go.Am

set_option maxRecDepth 100000
set_option linter.unusedVariables false
set_option linter.unusedSimpArgs false
namespace Go.Am
open Go
def eNats (l : List Nat) : List D := eInts (l.map (fun i : Nat => (i : Int)))
theorem ap_nat {l : List Nat} {i : Nat} (h : l.length < 4294967295) : ap Ar.std (eNats l) [.int .i64 (i : Int)] = some (eNats (l ++ [i])) := by
  unfold eNats
  have := ap_enc1 (c := cI .i64) (l := l.map (fun i : Nat => (i : Int))) (a := (i : Int)) (d := .int .i64 (i : Int)) rfl (by simpa using h)
  rw [this, List.map_append]
  rfl
theorem flatMap_first {β : Type} {f : Nat → List β} {n i : Nat} (hi : i < n) (h0 : ∀ j, j < i → f j = []) (h1 : f i ≠ []) : ((List.range n).flatMap f).head? = (f i).head? := by
  obtain ⟨k, rfl⟩ : ∃ k, n = i + (1 + k) := ⟨n - i - 1, by omega⟩
  rw [List.range_add, List.flatMap_append]
  have e1 : (List.range i).flatMap f = [] := by
    rw [List.flatMap_eq_nil_iff]; exact fun j hj => h0 j (List.mem_range.1 hj)
  rw [e1, List.nil_append, Nat.add_comm 1 k, List.range_succ_eq_map, List.map_cons, List.flatMap_cons, Nat.add_zero]
  cases hf : f i with
  | nil => exact absurd hf h1
  | cons a l => simp
def kid (S : List Spec) (h : List Call) (must : Call → Call → Bool) (m : Nat) (s : Int × Int) (i : Nat) : List (List Nat) := ((nextM S h must m s i).map fun p => (ords S h must p.1 p.2).map (i :: ·)).getD []
theorem kid_len (S : List Spec) (h : List Call) (must : Call → Call → Bool) (m : Nat) (s : Int × Int) (i : Nat) : (kid S h must m s i).length = contr S h must m s i := by
  unfold kid contr; cases nextM S h must m s i <;> simp
theorem way_step {S : List Spec} {h : List Call} {must : Call → Call → Bool} {m : Nat} {s : Int × Int} (he : endsM h m = false) {i : Nat} (hi : i < h.length) {p : Nat × Int × Int} (hn : nextM S h must m s i = some p)
    (h0 : ∀ j, j < i → contr S h must m s j = 0) (h1 : ords S h must p.1 p.2 ≠ []) : ords S h must m s ≠ [] ∧ way S h must m s = i :: way S h must p.1 p.2 := by
  have hk : kid S h must m s i = (ords S h must p.1 p.2).map (i :: ·) := by simp [kid, hn]
  have hne : kid S h must m s i ≠ [] := by rw [hk]; simpa using h1
  have hh : (ords S h must m s).head? = (kid S h must m s i).head? := by
    rw [ords_eq, he, cond_false, List.nil_append]
    exact flatMap_first (f := kid S h must m s) hi (fun j hj => by have := h0 j hj; rw [← kid_len] at this; exact List.length_eq_zero_iff.1 this) hne
  unfold way
  rw [hh, hk]
  cases ho : ords S h must p.1 p.2 with
  | nil => exact absurd ho h1
  | cons l r =>
    refine ⟨?_, by simp⟩
    intro e
    rw [e, hk, ho] at hh
    simp at hh
section
variable {S : List Spec} {h : List Call}
theorem H125bL0_eq (hl : h.length ≤ 8) (hok : ∀ c ∈ h, callOk c = true) {m : Nat} (hm : m < 256) {i : Nat} {c : Call} (hi : i ≤ 8) :
    iter (H125bL0 Ar.std (eCalls h) (m : Int) c.1 c.2.1 c.2.2.1 c.2.2.2.1 c.2.2.2.2.1 c.2.2.2.2.2) (!m.testBit i, 0) = some (freeM h bef m i c) := H125aL0_eq hl hok hm hi
theorem H125b_ok (hl : h.length ≤ 8) (hok : ∀ c ∈ h, callOk c = true ∧ callIn S c) {m : Nat} {s : Int × Int} {mp : List (D × D)} {out : List Nat} (hm : m < 256) (hs : stOk S s) (hg : GoodM S h bef mp) (ho : out.length < 100)
    (he : endsM h m = false) (hne : ords S h bef m s ≠ []) :
    ∃ i p mp', i < h.length ∧ nextM S h bef m s i = some p ∧ (∀ j, j < i → contr S h bef m s j = 0) ∧ ords S h bef p.1 p.2 ≠ [] ∧ GoodM S h bef mp' ∧
      H125b Ar.std mp (eSpecs S) (eCalls h) (m : Int) s.1 s.2 (eNats out) (m : Int) s.1 s.2 = some (.inr (mp', (p.1 : Int), p.2.1, p.2.2, eNats (out ++ [i]))) := by
  have hloop := iter_relE (step := H125bL1 Ar.std (eSpecs S) (eCalls h) (eNats out) (m : Int) s.1 s.2) h.length (fun (q : List (D × D)) i => ((i : Int), q))
    (fun i q => GoodM S h bef q ∧ ∀ j, j < i → contr S h bef m s j = 0)
    (fun i x => ∃ p mp', x = .inr (mp', (p.1 : Int), p.2.1, p.2.2, eNats (out ++ [i])) ∧ nextM S h bef m s i = some p ∧ (∀ j, j < i → contr S h bef m s j = 0) ∧ ords S h bef p.1 p.2 ≠ [] ∧ GoodM S h bef mp')
    (fun q => .inl q)
    (fun i q hi hR => by
      obtain ⟨hg1, h0⟩ := hR
      have hc := List.getElem?_eq_getElem hi
      have hcm := List.getElem_mem hi
      generalize h[i] = c at hc hcm
      obtain ⟨hcok, hcin⟩ := hok c hcm
      simp only [H125bL1, jn, std_zlt, len_enc, ltC hi, cond_true, gt_enc hc, bsome, H124a_eq hm (by omega : i ≤ 8), H125bL0_eq hl (fun c hc => (hok c hc).1) hm (by omega : i ≤ 8), std_wrp, std_zadd, wrap1 hi (by omega)]
      have goon : contr S h bef m s i = 0 → ∀ j, j < i + 1 → contr S h bef m s j = 0 := fun hz j hj => by
        rcases Nat.lt_or_eq_of_le (Nat.le_of_lt_succ hj) with h | h
        · exact h0 j h
        · rw [h]; exact hz
      cases hf : freeM h bef m i c with
      | false => exact .inl ⟨q, ⟨hg1, goon (by simp [contr, nextM, hc, hf])⟩, by simp only [cond_false]⟩
      | true =>
        have ht : m.testBit i = false := by simp only [freeM, Bool.and_eq_true] at hf; simpa using hf.1
        simp only [cond_true, H78a_eq hcin hs, bsome]
        cases hos : okS S c s with
        | false => exact .inl ⟨q, ⟨hg1, goon (by simp [contr, nextM, hc, hos])⟩, by simp only [cond_false]⟩
        | true =>
          have hn : nextM S h bef m s i = some (ins m i, doS S c s) := by simp [nextM, hc, hf, hos]
          have hc0 : contr S h bef m s i = (ords S h bef (ins m i) (doS S c s)).length := by simp [contr, hn]
          have hz : decide ((i : Int) < 0) = false := by simp
          have hins : Ar.std.bits .or .u8 (m : Int) (Ar.std.shl .u8 1 (i : Int)) = ((ins m i : Nat) : Int) := ins_u8 m i hm (by omega)
          obtain ⟨mp2, hg2, e2⟩ := H74_eq hl hok (m := ins m i) (ins_lt (n := 8) hm (by omega)) (doS_ok hcin hs) hg1
          simp only [cond_true, hz, nk_false, bsome, hins, e2]
          cases hlen : (ords S h bef (ins m i) (doS S c s)).length with
          | zero =>
            refine .inl ⟨mp2, ⟨hg2, goon (by rw [hc0, hlen])⟩, ?_⟩
            simp
          | succ k =>
            refine .inr ⟨_, ⟨(ins m i, doS S c s), mp2, rfl, hn, h0, fun e => (by simp only at e; rw [e] at hlen; cases hlen), hg2⟩, ?_⟩
            have hp : decide (0 < ((k + 1 : Nat) : Int)) = true := decide_eq_true (by omega)
            simp only [hp, cond_true, ap_nat (show out.length < 4294967295 by omega), bsome]
            rfl)
    (fun q hR => by simp [H125bL1]) mp ⟨hg, fun j hj => by omega⟩
  rcases hloop with ⟨q, ⟨_, h0⟩, _⟩ | ⟨i, x, hi, ⟨p, mp', rfl, hn, h0, h1, hg'⟩, hit⟩
  · exfalso
    apply hne
    have hlen := ords_len S h bef m s
    rw [he, cond_false, Nat.zero_add] at hlen
    have : ((List.range h.length).map (contr S h bef m s)).sum = 0 := by
      have hz : (List.range h.length).map (contr S h bef m s) = (List.range h.length).map (fun _ => 0) := List.map_congr_left fun j hj => h0 j (List.mem_range.1 hj)
      rw [hz, List.map_const']; simp
    rw [this] at hlen
    exact List.length_eq_zero_iff.1 hlen
  · refine ⟨i, p, mp', hi, hn, h0, h1, hg', ?_⟩
    have hit' : iter (H125bL1 Ar.std (eSpecs S) (eCalls h) (eNats out) (m : Int) s.1 s.2) (0, mp) = some (.inr (mp', (p.1 : Int), p.2.1, p.2.2, eNats (out ++ [i]))) := hit
    simp only [H125b, hit', bsome, Sum.elim_inr]
theorem first_ok (hl : h.length ≤ 8) (hok : ∀ c ∈ h, callOk c = true ∧ callIn S c) : ∀ (k m : Nat) (s : Int × Int) (mp : List (D × D)) (out : List Nat), room h m ≤ k → out.length + room h m < 100 → m < 256 → stOk S s → GoodM S h bef mp → ords S h bef m s ≠ [] →
    ∃ mp' m' a' b', iter (H92L0 Ar.std (eSpecs S) (eCalls h)) (mp, (m : Int), s.1, s.2, eNats out) = some (mp', m', a', b', eNats (out ++ way S h bef m s)) := by
  intro k
  induction k with
  | zero =>
    intro m s mp out hr ho hm hs hg hne
    cases he : endsM h m with
    | true =>
      have hw : way S h bef m s = [] := by unfold way; rw [ords_eq, he]; rfl
      refine ⟨mp, m, s.1, s.2, iter_inr ?_⟩
      simp only [H92L0, H115a_eq hl hm, he, bsome, cond_true, hw, List.append_nil]
    | false =>
      obtain ⟨i, p, mp', hi, hn, _⟩ := H125b_ok hl hok hm hs hg (out := out) (by omega) he hne
      obtain ⟨c, _, _, ht, _⟩ := nextM_some hn
      have := room_ins hi ht
      omega
  | succ k ih =>
    intro m s mp out hr ho hm hs hg hne
    cases he : endsM h m with
    | true =>
      have hw : way S h bef m s = [] := by unfold way; rw [ords_eq, he]; rfl
      refine ⟨mp, m, s.1, s.2, iter_inr ?_⟩
      simp only [H92L0, H115a_eq hl hm, he, bsome, cond_true, hw, List.append_nil]
    | false =>
      obtain ⟨i, p, mp', hi, hn, h0, h1, hg', e⟩ := H125b_ok hl hok hm hs hg (out := out) (by omega) he hne
      obtain ⟨c, hc, _, ht, _, _, rfl⟩ := nextM_some hn
      have hcm := List.mem_of_getElem? hc
      have hri := room_ins hi ht
      obtain ⟨_, hw⟩ := way_step he hi hn h0 h1
      obtain ⟨mp2, m2, a2, b2, e2⟩ := ih (ins m i) (doS S c s) mp' (out ++ [i]) (by omega) (by simp; omega) (ins_lt (n := 8) hm (by omega)) (doS_ok (hok c hcm).2 hs) hg' h1
      refine ⟨mp2, m2, a2, b2, ?_⟩
      rw [hw, show out ++ i :: way S h bef (ins m i) (doS S c s) = (out ++ [i]) ++ way S h bef (ins m i) (doS S c s) by simp, ← e2]
      refine iter_inl ?_
      simp only [H92L0, H115a_eq hl hm, he, bsome, cond_false, H116d, e, Sum.elim_inr]
theorem H92_eq (hl : h.length ≤ 8) (hok : ∀ c ∈ h, callOk c = true ∧ callIn S c) {m : Nat} {s : Int × Int} {mp : List (D × D)} (hm : m < 256) (hs : stOk S s) (hg : GoodM S h bef mp) :
    ∃ mp', H92 Ar.std (m : Int) s.1 s.2 mp (eSpecs S) (eCalls h) = some (eNats (way S h bef m s), !(ords S h bef m s).isEmpty, mp') := by
  obtain ⟨mp1, hg1, e1⟩ := H74_eq hl hok hm hs hg
  simp only [H92, e1, bsome, std_zeq]
  cases ho : ords S h bef m s with
  | nil => exact ⟨mp1, by simp [way, ho, eNats]⟩
  | cons l r =>
    have hr : room h m ≤ 8 := by
      have := List.countP_le_length (p := fun i => !m.testBit i) (l := List.range h.length)
      unfold room; rw [List.length_range] at this; omega
    obtain ⟨mp2, m2, a2, b2, e2⟩ := first_ok hl hok (room h m) m s mp1 [] (Nat.le_refl _) (by simp; omega) hm hs hg1 (by rw [ho]; simp)
    have hz : decide (((l :: r).length : Int) = 0) = false := by simp; omega
    have e2' : iter (H92L0 Ar.std (eSpecs S) (eCalls h)) (mp1, (m : Int), s.1, s.2, []) = some (mp2, m2, a2, b2, eNats ([] ++ way S h bef m s)) := e2
    exact ⟨mp2, by simp only [hz, cond_false, e2', bsome, List.nil_append]; rfl⟩
end
def ords0 (S : List Spec) (h : List Call) : List (List Nat) := ords S h bef 0 (0, 0)
def orderR (S : List Spec) (h : List Call) : List Nat × Int := bif decide (errH S h = 0) then (match ords0 S h with | [] => ([], 5) | l :: _ => (l, 0)) else ([], errH S h)
theorem errH_zero {S : List Spec} {h : List Call} (he : errH S h = 0) : areS S = true ∧ forH S h = true := by
  unfold errH at he
  cases ha : areS S <;> cases hf : forH S h <;> simp [ha, hf] at he ⊢
theorem H43_eq (S : List Spec) (h : List Call) (hs : SpecsOk S) (hl : h.length < Lg) : H43 Ar.std (eSpecs S) (eCalls h) = some (eNats (orderR S h).1, (orderR S h).2) := by
  simp only [H43, H71_eq S h hs hl, bsome, std_zeq, H72, orderR]
  by_cases he : errH S h = 0
  · obtain ⟨ha, hf⟩ := errH_zero he
    obtain ⟨h8, hok⟩ := forH_in ha hf
    obtain ⟨mp', e⟩ := H92_eq (S := S) (h := h) h8 hok (m := 0) (s := (0, 0)) (mp := []) (by decide) (stOk_zero ha) (GoodM.nil _ _ _)
    have e' : H92 Ar.std 0 0 0 [] (eSpecs S) (eCalls h) = _ := e
    simp only [he, decide_true, cond_true, e', bsome, ords0, way]
    cases ho : ords S h bef 0 (0, 0) with
    | nil => rfl
    | cons l r => rfl
  · simp only [he, decide_false, cond_false]; rfl
theorem H30_eq (S : List Spec) (h : List Call) (hs : SpecsOk S) (hl : h.length < Lg) : H30 Ar.std (eSpecs S) (eCalls h) = some (bif decide (errH S h = 0) then (((ords0 S h).length : Int), 0) else (0, errH S h)) := by
  simp only [H30, H71_eq S h hs hl, bsome, std_zeq, H72]
  by_cases he : errH S h = 0
  · obtain ⟨ha, hf⟩ := errH_zero he
    obtain ⟨h8, hok⟩ := forH_in ha hf
    obtain ⟨mp', _, e⟩ := H74_eq (S := S) (h := h) h8 hok (m := 0) (s := (0, 0)) (mp := []) (by decide) (stOk_zero ha) (GoodM.nil _ _ _)
    have e' : H74 Ar.std 0 0 0 [] (eSpecs S) (eCalls h) = _ := e
    simp only [he, decide_true, cond_true, e', bsome, ords0]
  · simp only [he, decide_false, cond_false]
theorem H26_eq (S : List Spec) (h : List Call) (hs : SpecsOk S) (hl : h.length < Lg) : H26 Ar.std (eSpecs S) (eCalls h) = some (decide (errH S h = 0) && !(ords0 S h).isEmpty, errH S h) := by
  simp only [H26, H30_eq S h hs hl, bsome, std_zlt]
  by_cases he : errH S h = 0
  · simp only [he, decide_true, cond_true]
    cases ords0 S h <;> simp
  · simp [he]
theorem H56_eq (l m : List Int) (hl : l.length < Lg) : H56 Ar.std (eInts l) (eInts m) = some (decide (l = m)) := by
  simp only [H56, std_zeq, len_enc]
  by_cases hlen : l.length = m.length
  · have e : iter (H56L0 Ar.std (eInts l) (eInts m)) 0 = some (bif (List.range l.length).any (fun i => decide (l[i]? ≠ m[i]?)) then .inr () else .inl ()) := by
      refine iter_rng l.length _ _ _ (fun i hi => ?_) ?_
      · have hi2 : i < m.length := by omega
        have h1 := List.getElem?_eq_getElem hi
        have h2 := List.getElem?_eq_getElem hi2
        simp only [H56L0, std_zlt, len_enc, ltC hi, cond_true, gt_enc h1, gt_enc h2, bsome, std_zeq, std_wrp, std_zadd, wrap1 hi hl, h1, h2]
        by_cases he : l[i] = m[i] <;> simp [he]
      · simp [H56L0]
    have hc : decide ((l.length : Int) = (m.length : Int)) = true := by simp; omega
    simp only [hc, cond_true, e, bsome]
    by_cases he : l = m
    · subst he; simp
    · have : (List.range l.length).any (fun i => decide (l[i]? ≠ m[i]?)) = true := by
        refine Classical.byContradiction fun hn => he ?_
        rw [Bool.not_eq_true, List.any_eq_false] at hn
        refine List.ext_getElem? fun i => ?_
        rcases Nat.lt_or_ge i l.length with h | h
        · have := hn i (List.mem_range.2 h); simpa using this
        · rw [List.getElem?_eq_none h, List.getElem?_eq_none (by omega)]
      rw [this]; simp [he]
  · have hc : decide ((l.length : Int) = (m.length : Int)) = false := by simp; omega
    have : ¬ l = m := fun e => hlen (by rw [e])
    simp [hc, this]
def qSpec : Spec := (2, 2, [[1, 0], [1, 0]], [[1, 0], [0, 1]])
def qHist : List Call := [(0, 0, 0, 1, 1, 6), (1, 0, 1, 0, 2, 5)]
theorem sane_order : orderR [qSpec] qHist = ([1, 0], 0) := by decide +kernel
theorem H19_eq : H19 Ar.std = some true := by
  have hs : SpecsOk [qSpec] := by
    refine ⟨by decide, fun s hs => ?_⟩
    obtain rfl : s = qSpec := by simpa using hs
    refine ⟨⟨by decide, fun r hr => ?_⟩, ⟨by decide, fun r hr => ?_⟩⟩ <;> simp [qSpec] at hr <;> rcases hr with rfl | rfl <;> decide
  have e := H43_eq [qSpec] qHist hs (by decide)
  rw [sane_order] at e
  have e' : H43 Ar.std [(.agg [(.int .i64 2), (.int .i64 2), (.list 1 [(.list 1 [(.int .i64 1), (.int .i64 0)]), (.list 1 [(.int .i64 1), (.int .i64 0)])]), (.list 1 [(.list 1 [(.int .i64 1), (.int .i64 0)]), (.list 1 [(.int .i64 0), (.int .i64 1)])])])] [(.agg [(.int .i64 0), (.int .i64 0), (.int .i64 0), (.int .i64 1), (.int .i64 1), (.int .i64 6)]), (.agg [(.int .i64 1), (.int .i64 0), (.int .i64 1), (.int .i64 0), (.int .i64 2), (.int .i64 5)])] = some (eInts [1, 0], 0) := e
  have e2 : H56 Ar.std (eInts [1, 0]) [(.int .i64 1), (.int .i64 0)] = some true := by
    have h := H56_eq [1, 0] [1, 0] (by decide)
    rw [decide_eq_true rfl] at h
    exact h
  simp only [H19, e', bsome, std_zeq, decide_true, cond_true, e2]
end Go.Am

set_option maxRecDepth 100000
set_option linter.unusedVariables false
set_option linter.unusedSimpArgs false
namespace Go.Am
open Go
def hc (h : List Call) (x : Int) : Call := h.getD x.toNat (0, 0, 0, 0, 0, 0)
def inH (h : List Call) (x : Int) : Bool := btw 0 x ((h.length : Int) - 1)
theorem inH_iff {h : List Call} {x : Int} : inH h x = true ↔ 0 ≤ x ∧ x < h.length := by unfold inH; rw [btw_true]; omega
theorem hc_get {h : List Call} {x : Int} (hx : inH h x = true) : h[x.toNat]? = some (hc h x) := by
  rw [inH_iff] at hx
  have : x.toNat < h.length := by omega
  simp [hc, List.getD_eq_getElem?_getD, List.getElem?_eq_getElem this]
theorem hc_nat {h : List Call} {i : Nat} {c : Call} (hi : h[i]? = some c) : hc h (i : Int) = c := by simp [hc, List.getD_eq_getElem?_getD, hi]
theorem hc_mem {h : List Call} {x : Int} (hx : inH h x = true) : hc h x ∈ h := List.mem_of_getElem? (hc_get hx)
def numsAt (h : List Call) (l : List Int) (i : Nat) : Bool := (l[i]?.map fun x => !inH h x || (l.take i).contains x).getD false
def nums (h : List Call) (l : List Int) : Bool := !(List.range l.length).any (numsAt h l)
def full (h : List Call) (l : List Int) : Bool := !(List.range h.length).any fun i => (h[i]?.map fun c => decide (c.to ≠ 0) && !l.contains (i : Int)).getD false
def isL (h : List Call) (l : List Int) : Bool := nums h l && full h l
theorem nums_iff {h : List Call} {l : List Int} : nums h l = true ↔ (∀ x ∈ l, inH h x = true) ∧ l.Nodup := by
  simp only [nums, Bool.not_eq_true', List.any_eq_false, List.mem_range]
  constructor
  · intro hn
    have hx : ∀ i (hi : i < l.length), inH h l[i] = true ∧ l[i] ∉ l.take i := by
      intro i hi
      have := hn i hi
      simp only [numsAt, List.getElem?_eq_getElem hi, Option.map_some, Option.getD_some, Bool.or_eq_true, not_or, Bool.not_eq_true', Bool.not_eq_false, List.contains_iff_mem] at this
      exact this
    refine ⟨fun x hxm => ?_, ?_⟩
    · obtain ⟨i, hi, rfl⟩ := List.getElem_of_mem hxm
      exact (hx i hi).1
    · rw [List.Nodup, List.pairwise_iff_getElem]
      intro i j hi hj hij e
      refine (hx j hj).2 ?_
      rw [← e]
      have hlt : i < (l.take j).length := by simp; omega
      have : (l.take j)[i] = l[i] := List.getElem_take
      rw [← this]; exact List.getElem_mem hlt
  · rintro ⟨h1, h2⟩ i hi
    simp only [numsAt, List.getElem?_eq_getElem hi, Option.map_some, Option.getD_some, Bool.or_eq_true, not_or, Bool.not_eq_true', Bool.not_eq_false, List.contains_iff_mem]
    refine ⟨h1 _ (List.getElem_mem hi), fun hm => ?_⟩
    obtain ⟨j, hj, e⟩ := List.getElem_of_mem hm
    have hj' : j < i := by simp at hj; omega
    rw [List.getElem_take] at e
    rw [List.Nodup, List.pairwise_iff_getElem] at h2
    exact h2 j i (by omega) hi hj' e
theorem nums_len {h : List Call} {l : List Int} (hn : nums h l = true) : l.length ≤ h.length := by
  obtain ⟨h1, h2⟩ := nums_iff.1 hn
  have hs : ∀ x ∈ l, x ∈ (List.range h.length).map (fun i : Nat => (i : Int)) := by
    intro x hx
    have := inH_iff.1 (h1 x hx)
    exact List.mem_map.2 ⟨x.toNat, List.mem_range.2 (by omega), by omega⟩
  have := List.Nodup.length_le_of_subset h2 hs
  simpa using this
def seenB (n : Nat) (pre : List Int) : List Bool := pre.foldl (fun t x => t.set x.toNat true) (List.replicate n false)
theorem seenB_snoc (n : Nat) (pre : List Int) (x : Int) : seenB n (pre ++ [x]) = (seenB n pre).set x.toNat true := by simp [seenB]
theorem seenB_get (n : Nat) : ∀ (pre : List Int), (∀ x ∈ pre, 0 ≤ x ∧ x < n) → (seenB n pre).length = n ∧ ∀ j : Nat, j < n → (seenB n pre)[j]? = some (pre.contains (j : Int)) := by
  intro pre
  induction hl : pre.length generalizing pre with
  | zero =>
    intro _
    obtain rfl := List.length_eq_zero_iff.1 hl
    refine ⟨by simp [seenB], fun j hj => ?_⟩
    show (List.replicate n false)[j]? = _
    rw [List.getElem?_replicate, if_pos hj]; rfl
  | succ k ih =>
    intro hok
    obtain ⟨p, x, rfl⟩ : ∃ p c, pre = p ++ [c] := ⟨pre.dropLast, pre.getLast (by intro e; rw [e] at hl; cases hl), (List.dropLast_concat_getLast _).symm⟩
    obtain ⟨h1, h2⟩ := ih p (by simpa using hl) (fun d hd => hok d (by simp [hd]))
    have hx := hok x (by simp)
    rw [seenB_snoc]
    refine ⟨by simp [h1], fun j hj => ?_⟩
    rw [List.getElem?_set, h2 j hj]
    by_cases he : x.toNat = j
    · have : x = (j : Int) := by omega
      rw [if_pos he, if_pos (by omega), this]; simp
    · have h3 : ¬ x = (j : Int) := by omega
      have h4 : ((j : Int) == x) = false := by simpa using fun e => h3 e.symm
      rw [if_neg he]; simp [h4]; exact fun e => absurd e.symm h3
section
variable {h : List Call} (hl : h.length ≤ 40)
include hl
theorem wrapL (h0 : h.length ≤ 40) : IntKind.i64.wrap ((h.length : Int) - 1) = (h.length : Int) - 1 := wrapS (by omega) (by omega)
theorem H93a_eq (l : List Int) (hll : l.length < Lg) : H93a Ar.std (eCalls h) (eInts l) = some (isL h l) := by
  simp only [H93a, std_zlt, len_enc]
  by_cases hlen : (h.length : Int) < (l.length : Int)
  · have : nums h l = false := by
      cases hn : nums h l with
      | false => rfl
      | true => have := nums_len hn; omega
    simp only [hlen, decide_true, cond_true, isL, this, Bool.false_and]
  · have c1 : decide ((h.length : Int) = (h.length : Int)) = true := by simp
    have c2 : decide ((0 : Int) ≤ (h.length : Int)) = true := by simp
    have c3 : decide ((h.length : Int) < 4294967296) = true := decide_eq_true (by omega)
    simp only [hlen, decide_false, cond_false, std_zeq, c1, ck_true, std_zle, c2, std_fits, c3, bsome]
    have hpre : ∀ i, (∀ j, j < i → numsAt h l j = false) → ∀ x ∈ l.take i, inH h x = true := by
      intro i hb x hx
      obtain ⟨j, hj, rfl⟩ := List.getElem_of_mem hx
      have hj1 : j < i ∧ j < l.length := by simp at hj; omega
      have := hb j hj1.1
      simp only [numsAt, List.getElem?_eq_getElem hj1.2, Option.map_some, Option.getD_some, Bool.or_eq_false_iff] at this
      rw [List.getElem_take]; simpa using this.1
    have hstop := iter_stop (step := H93aL0 Ar.std (eCalls h) (eInts l)) l.length (fun i => ((i : Int), enc cB (seenB h.length (l.take i)))) (numsAt h l) (enc cB (seenB h.length (l.take l.length))) (fun i hi hb => by
      have hx := List.getElem?_eq_getElem hi
      generalize l[i] = x at hx
      have hp := hpre i hb
      obtain ⟨t1, t2⟩ := seenB_get h.length (l.take i) (fun x hx => inH_iff.1 (hp x hx))
      have hbt : btw 0 x ((h.length : Int) - 1) = inH h x := rfl
      simp only [numsAt, hx, Option.map_some, Option.getD_some, H93aL0, std_zlt, len_enc, ltC hi, cond_true, gt_enc hx, bsome, H67_eq, std_wrp, std_zsub, wrapL hl hl, hbt]
      cases hin : inH h x with
      | false => exact ⟨fun h => (by cases h), fun _ => ⟨_, rfl⟩⟩
      | true =>
        have hix := inH_iff.1 hin
        have d0 : decide (0 ≤ x) = true := decide_eq_true hix.1
        have d1 : decide (x < (h.length : Int)) = true := decide_eq_true hix.2
        have hnat : Ar.std.nat (Ar.std.zadd 0 x) = x.toNat := by simp
        have hg := t2 x.toNat (by omega)
        rw [show ((x.toNat : Nat) : Int) = x by omega] at hg
        have g1 : gc Ar.std cB (enc cB (seenB h.length (l.take i))) x.toNat = some ((l.take i).contains x) := gc_enc hg
        have g2 : Ar.std.lget (enc cB (seenB h.length (l.take i))) x.toNat = some (cB.en ((l.take i).contains x)) := by rw [std_lget, enc_get, hg]; rfl
        have hset : Ar.std.lset (enc cB (seenB h.length (l.take i))) x.toNat (D.bool true) = enc cB ((seenB h.length (l.take i)).set x.toNat true) := enc_set _ _ true
        simp only [cond_true, std_zle, d0, d1, ck_true, bsome, hnat, g1, g2, hset, Bool.not_true, Bool.false_or]
        cases hcn : (l.take i).contains x with
        | true => exact ⟨fun h => (by cases h), fun _ => ⟨_, rfl⟩⟩
        | false =>
          refine ⟨fun _ => ?_, fun h => (by cases h)⟩
          simp only [cond_false, std_zadd, wrap1 hi hll, take_succ_get hx, seenB_snoc]) (fun hb => by simp [H93aL0])
    have e0 : ((0 : Int), Ar.std.rep (h.length : Int) (D.bool false)) = (((0 : Nat) : Int), enc cB (seenB h.length (l.take 0))) := by
      rw [show (D.bool false) = cB.en false from rfl, enc_rep]; simp [seenB]
    rw [e0]
    rcases hstop with ⟨h1, h2, h3⟩ | ⟨h1, z, h3⟩
    · rw [h3]
      simp only [bsome, Sum.elim_inl, isL, nums, h1, Bool.not_false, Bool.true_and, List.take_length]
      have hp := hpre l.length h2
      rw [List.take_length] at hp
      obtain ⟨t1, t2⟩ := seenB_get h.length l (fun x hx => inH_iff.1 (hp x hx))
      have e1 : iter (H93aL1 Ar.std (eCalls h) (enc cB (seenB h.length l))) 0 = some (bif (List.range h.length).any (fun i => (h[i]?.map fun c => decide (c.to ≠ 0) && !l.contains (i : Int)).getD false) then .inr () else .inl ()) := by
        refine iter_rng h.length _ _ _ (fun i hi => ?_) ?_
        · have hc := List.getElem?_eq_getElem hi
          generalize h[i] = c at hc
          have d0 : decide ((0 : Int) ≤ (i : Int)) = true := by simp
          have hnat : Ar.std.nat (Ar.std.zadd 0 (i : Int)) = i := by simp
          have g1 : gc Ar.std cB (enc cB (seenB h.length l)) i = some (l.contains (i : Int)) := gc_enc (t2 i hi)
          simp only [H93aL1, std_zlt, std_zle, len_enc, ltC hi, cond_true, gt_enc hc, bsome, std_zeq, d0, ck_true, hnat, g1, hc, Option.map_some, Option.getD_some, Call.to]
          simp only [std_wrp, std_zadd, wrap1 hi (show h.length < 9223372036854775808 by omega)]
          by_cases hz : c.2.2.2.2.2 = 0
          · simp [hz]
          · cases l.contains (i : Int) <;> simp [hz]
        · simp [H93aL1]
      rw [e1]
      unfold full
      cases (List.range h.length).any _ <;> rfl
    · rw [h3]
      simp [isL, nums, h1]
def keepsAt (must : Call → Call → Bool) (h : List Call) (l : List Int) (i : Nat) : Bool := (l[i]?.map fun x => (l.take i).any fun y => must (hc h x) (hc h y)).getD false
def keepsL (must : Call → Call → Bool) (h : List Call) (l : List Int) : Bool := !(List.range l.length).any (keepsAt must h l)
omit hl in
theorem H94a_eq (l : List Int) (hll : l.length < Lg) (hin : ∀ x ∈ l, inH h x = true) : H94a Ar.std (eCalls h) (eInts l) = some (keepsL bef h l) := by
  have e0 : ∀ (i : Nat) (x : Int), l[i]? = some x → iter (H94aL0 Ar.std (eCalls h) (eInts l) (i : Int)) 0 = some (bif (l.take i).any (fun y => bef (hc h x) (hc h y)) then .inr () else .inl ()) := by
    intro i x hx
    have hi : i < l.length := (List.getElem?_eq_some_iff.1 hx).1
    have hlen : (l.take i).length = i := by simp; omega
    have hxi := hin x (List.mem_of_getElem? hx)
    refine iter_any (l.take i) _ _ _ (fun k y hy hk => ?_) (by simp [H94aL0, hlen])
    have hk' : k < i := by omega
    have hy' : l[k]? = some y := by rw [List.getElem?_take] at hy; rw [if_pos hk'] at hy; exact hy
    have hyi := hin y (List.mem_of_getElem? hy')
    simp only [H94aL0, std_zlt, ltC hk', cond_true, gt_enc hx, gt_enc hy', bsome, gt_encI (inH_iff.1 hxi).1 (hc_get hxi), gt_encI (inH_iff.1 hyi).1 (hc_get hyi), H68_eq, std_wrp, std_zadd, wrap1 hk' (Nat.lt_trans hi hll)]
    cases bef (hc h x) (hc h y) <;> rfl
  have e : iter (H94aL1 Ar.std (eCalls h) (eInts l)) 0 = some (bif (List.range l.length).any (keepsAt bef h l) then .inr () else .inl ()) := by
    refine iter_rng l.length _ _ _ (fun i hi => ?_) ?_
    · have hx := List.getElem?_eq_getElem hi
      generalize l[i] = x at hx
      simp only [H94aL1, std_zlt, len_enc, ltC hi, cond_true, e0 i x hx, bsome, std_wrp, std_zadd, wrap1 hi hll, keepsAt, hx, Option.map_some, Option.getD_some]
      cases (l.take i).any _ <;> rfl
    · simp [H94aL1]
  simp only [H94a, e, bsome, keepsL]
  cases (List.range l.length).any _ <;> rfl
def allowsF (S : List Spec) (h : List Call) : List Int → Int × Int → Bool
  | [], _ => true
  | x :: l, s => okS S (hc h x) s && allowsF S h l (doS S (hc h x) s)
def allowsL (S : List Spec) (h : List Call) (l : List Int) : Bool := allowsF S h l (0, 0)
def stL (S : List Spec) (s : Int × Int) : List Int := [s.1, s.2].take S.length
omit hl in
theorem stL_get {S : List Spec} {c : Call} (hin : callIn S c) (s : Int × Int) : (stL S s)[c.ob.toNat]? = some (nowOf c s) := by
  obtain ⟨hob, x, hx, _⟩ := hin
  have hlt := (List.getElem?_eq_some_iff.1 hx).1
  unfold stL
  rw [List.getElem?_take, if_pos hlt]
  rcases hob with h | h
  · simp [h, nowOf]
  · simp [h, nowOf]
omit hl in
theorem stL_set {S : List Spec} {c : Call} (hin : callIn S c) (s : Int × Int) : (stL S s).set c.ob.toNat (nx (spOf S c).2.2.1 (nowOf c s) c.op) = stL S (doS S c s) := by
  obtain ⟨hob, x, hx, _⟩ := hin
  unfold stL
  rw [← List.take_set]
  congr 1
  rcases hob with h | h <;> simp [h, doS]
omit hl in
theorem H95a_eq {S : List Spec} (ha : areS S = true) (hok : ∀ c ∈ h, callOk c = true ∧ callIn S c) (l : List Int) (hll : l.length < Lg) (hin : ∀ x ∈ l, inH h x = true) : H95a Ar.std (eSpecs S) (eCalls h) (eInts l) = some (allowsL S h l) := by
  have hS : 1 ≤ S.length ∧ S.length ≤ 2 := by
    simp only [areS, Bool.and_eq_true, btw_true] at ha; omega
  have hloop := iter_list (step := H95aL0 Ar.std (eSpecs S) (eCalls h) (eInts l)) l (fun (s : Int × Int) i => ((i : Int), eInts (stL S s))) (fun s x => bif okS S (hc h x) s then .inl (doS S (hc h x) s) else .inr (.inr (eInts (stL S s)))) (fun s => .inl (eInts (stL S s))) (fun _ s => stOk S s)
    (fun i x s hx hs => by
      have hi : i < l.length := (List.getElem?_eq_some_iff.1 hx).1
      have hxi := hin x (List.mem_of_getElem? hx)
      have hcg := hc_get hxi
      have hcm := hc_mem hxi
      generalize hc h x = c at hcg hcm
      obtain ⟨hcok, hcin⟩ := hok c hcm
      obtain ⟨y, hy, e, hsy, h1, h2, h3, h4⟩ := callIn_now hcin hs
      obtain ⟨_, _, t1, t2⟩ := (specOk_iff y).1 hsy
      obtain ⟨r, g1, g2, g3, g4⟩ := tab_get t1 h1 h2 h3 h4
      obtain ⟨q, k1, k2, k3, k4⟩ := tab_get t2 h1 h2 h3 h4
      have hob : 0 ≤ c.2.1 := by rcases hcin.1 with h | h <;> simp only [Call.ob] at h <;> omega
      have hobl : c.2.1 < (S.length : Int) := by have := (List.getElem?_eq_some_iff.1 hy).1; simp only [Call.ob] at this; omega
      have d0 : decide (0 ≤ c.2.1) = true := decide_eq_true hob
      have d1 : decide (c.2.1 < (S.length : Int)) = true := decide_eq_true hobl
      have hnat : Ar.std.nat (Ar.std.zadd 0 c.2.1) = c.ob.toNat := by simp
      have hsg := stL_get hcin s
      have gg : gc Ar.std (cI .i64) (eInts (stL S s)) c.ob.toNat = some (nowOf c s) := gc_enc hsg
      have gl : Ar.std.lget (eInts (stL S s)) c.ob.toNat = some (.int .i64 (nowOf c s)) := by rw [std_lget, enc_get, hsg]; rfl
      have hset : ∀ v : Int, Ar.std.lset (eInts (stL S s)) c.ob.toNat (.int .i64 v) = eInts ((stL S s).set c.ob.toNat v) := fun v => enc_set _ _ v
      have e1 := gt_eSpecsI (l := S) hob hy
      have e2 := gt_eTabI h1 g1
      have e3 := gt_encI (c := cI .i64) (l := r) h3 g2
      have e4 := gt_eTabI h1 k1
      have e5 := gt_encI (c := cI .i64) (l := q) h3 k2
      have hst : H95aL0 Ar.std (eSpecs S) (eCalls h) (eInts l) ((i : Int), eInts (stL S s)) = some (bif okS S c s then .inl (((i + 1 : Nat) : Int), eInts (stL S (doS S c s))) else .inr (.inr (eInts (stL S s)))) := by
        simp only [H95aL0, std_zlt, std_zle, len_enc, List.length_map, ltC hi, cond_true, gt_enc hx, gt_encI (inH_iff.1 hxi).1 hcg, bsome, e1, std_zeq, d0, d1, ck_true, hnat, gg, gl, e2, e3, e4, e5, cond_some, hset]
        simp only [std_wrp, std_zadd, wrap1 hi hll]
        have hset2 := stL_set hcin s
        rw [e] at hset2
        rw [hset2]
        unfold okS
        rw [e]
        by_cases hz : c.2.2.2.2.2 = 0
        · simp [hz]
        · by_cases hsa : nx y.2.2.2 (nowOf c s) c.2.2.1 = c.2.2.2.1 <;> simp [hz, hsa]
      rw [hst]
      cases hos : okS S c s with
      | true => exact .inl ⟨_, rfl, doS_ok hcin hs, rfl⟩
      | false => exact .inr ⟨_, rfl, rfl⟩)
    (fun s hs => by simp [H95aL0]) (0, 0) (stOk_zero ha)
  have hfold : ∀ (l : List Int) (s : Int × Int), ∃ z, foldE (fun s x => bif okS S (hc h x) s then .inl (doS S (hc h x) s) else .inr (.inr (eInts (stL S s)))) (fun s => (.inl (eInts (stL S s)) : List D ⊕ List D)) l s = bif allowsF S h l s then .inl z else .inr z := by
    intro l
    induction l with
    | nil => intro s; exact ⟨_, rfl⟩
    | cons x l ih =>
      intro s
      rw [foldE_cons]
      cases hos : okS S (hc h x) s with
      | true =>
        obtain ⟨z, hz⟩ := ih (doS S (hc h x) s)
        exact ⟨z, by simp only [cond_true, Sum.elim_inl, hz, allowsF, hos, Bool.true_and]⟩
      | false => exact ⟨_, by simp only [cond_false, Sum.elim_inr, allowsF, hos, Bool.false_and]; rfl⟩
  obtain ⟨z, hz⟩ := hfold l (0, 0)
  rw [hz] at hloop
  have c1 : decide ((S.length : Int) = (S.length : Int)) = true := by simp
  have c2 : decide ((0 : Int) ≤ (S.length : Int)) = true := by simp
  have c3 : decide ((S.length : Int) < 4294967296) = true := decide_eq_true (by omega)
  have e0 : ((0 : Int), Ar.std.rep (S.length : Int) (D.int .i64 0)) = (((0 : Nat) : Int), eInts (stL S (0, 0))) := by
    rw [show (D.int .i64 0) = (cI .i64).en 0 from rfl, enc_rep]
    have : List.replicate S.length (0 : Int) = stL S (0, 0) := by
      unfold stL
      have h2 : S.length = 1 ∨ S.length = 2 := by omega
      rcases h2 with h | h <;> rw [h] <;> rfl
    simp [this]
  simp only [H95a, len_enc, List.length_map, std_zeq, c1, ck_true, std_zle, c2, std_fits, c3, bsome, e0, hloop, allowsL]
  cases allowsF S h l (0, 0) <;> rfl
end
end Go.Am

set_option maxRecDepth 100000
set_option linter.unusedVariables false
set_option linter.unusedSimpArgs false
namespace Go.Am
open Go
def cN (l : List Nat) : List Int := l.map (fun i : Nat => (i : Int))
theorem eNats_eq (l : List Nat) : eNats l = eInts (cN l) := rfl
@[simp] theorem cN_snoc (l : List Nat) (i : Nat) : cN (l ++ [i]) = cN l ++ [(i : Int)] := by simp [cN]
theorem cN_mem {l : List Nat} {i : Nat} : (i : Int) ∈ cN l ↔ i ∈ l := by
  simp only [cN, List.mem_map]
  constructor
  · rintro ⟨j, hj, e⟩; have : j = i := by omega
    subst this; exact hj
  · intro h; exact ⟨i, h, rfl⟩
def maskL (l : List Nat) : Nat := l.foldl ins 0
def runL (S : List Spec) (h : List Call) (l : List Nat) : Int × Int := l.foldl (fun s (i : Nat) => doS S (hc h (i : Int)) s) (0, 0)
theorem maskL_snoc (l : List Nat) (i : Nat) : maskL (l ++ [i]) = ins (maskL l) i := by simp [maskL]
theorem runL_snoc (S : List Spec) (h : List Call) (l : List Nat) (i : Nat) : runL S h (l ++ [i]) = doS S (hc h (i : Int)) (runL S h l) := by simp [runL]
theorem snoc_ind {α : Type} {P : List α → Prop} (h0 : P []) (h1 : ∀ l a, P l → P (l ++ [a])) : ∀ l, P l := by
  intro l
  have : ∀ k (l : List α), l.length = k → P l := by
    intro k
    induction k with
    | zero => intro l hl; rw [List.length_eq_zero_iff.1 hl]; exact h0
    | succ k ih =>
      intro l hl
      have hne : l ≠ [] := by intro e; rw [e] at hl; cases hl
      rw [← List.dropLast_concat_getLast hne]
      exact h1 _ _ (ih _ (by rw [List.length_dropLast, hl]; rfl))
  exact this _ l rfl
theorem maskL_test (l : List Nat) (i : Nat) : (maskL l).testBit i = decide (i ∈ l) := by
  induction l using snoc_ind with
  | h0 => simp [maskL]
  | h1 l a ih =>
    rw [maskL_snoc, ins_test, ih, Bool.eq_iff_iff]
    simp only [Bool.or_eq_true, decide_eq_true_eq, List.mem_append, List.mem_singleton]
    constructor
    · rintro (h | h)
      · exact .inl h
      · exact .inr h.symm
    · rintro (h | h)
      · exact .inl h
      · exact .inr h.symm
theorem allowsF_snoc (S : List Spec) (h : List Call) (x : Int) : ∀ (l : List Int) (s : Int × Int), allowsF S h (l ++ [x]) s = (allowsF S h l s && okS S (hc h x) (l.foldl (fun s x => doS S (hc h x) s) s))
  | [], s => by simp [allowsF]
  | y :: l, s => by simp only [List.cons_append, allowsF, allowsF_snoc S h x l, List.foldl_cons, Bool.and_assoc]
theorem allowsL_snoc (S : List Spec) (h : List Call) (l : List Nat) (i : Nat) : allowsL S h (cN (l ++ [i])) = (allowsL S h (cN l) && okS S (hc h (i : Int)) (runL S h l)) := by
  unfold allowsL
  rw [cN_snoc, allowsF_snoc]
  congr 2
  unfold runL cN
  rw [List.foldl_map]
theorem keepsL_snoc (must : Call → Call → Bool) (h : List Call) (l : List Int) (x : Int) : keepsL must h (l ++ [x]) = (keepsL must h l && !l.any fun y => must (hc h x) (hc h y)) := by
  unfold keepsL
  rw [List.length_append, List.length_singleton, List.range_succ, List.any_append]
  have h1 : (List.range l.length).any (keepsAt must h (l ++ [x])) = (List.range l.length).any (keepsAt must h l) := by
    refine any_congr fun i hi => ?_
    have hi := List.mem_range.1 hi
    unfold keepsAt
    rw [List.getElem?_append_left hi, List.take_append_of_le_length (by omega)]
  have h2 : keepsAt must h (l ++ [x]) l.length = l.any fun y => must (hc h x) (hc h y) := by
    unfold keepsAt
    rw [List.getElem?_append_right (Nat.le_refl _)]
    simp
  rw [h1]
  simp only [List.any_cons, List.any_nil, Bool.or_false, h2, Bool.not_or]
structure MustOk (must : Call → Call → Bool) (h : List Call) : Prop where
  ret : ∀ c ∈ h, ∀ d ∈ h, must c d = true → 0 < c.to
  irr : ∀ c ∈ h, must c c = false
theorem bef_must {h : List Call} (hok : ∀ c ∈ h, callOk c = true) : MustOk bef h := by
  refine ⟨fun c hc d _ hb => ?_, fun c hc => ?_⟩
  · have := (callOk_iff c).1 (hok c hc)
    simp only [bef, Bool.and_eq_true, decide_eq_true_eq] at hb; omega
  · have := (callOk_iff c).1 (hok c hc)
    simp only [bef, Bool.and_eq_false_iff, decide_eq_false_iff_not]; omega
section
variable {S : List Spec} {h : List Call} {must : Call → Call → Bool}
def closed (must : Call → Call → Bool) (h : List Call) (m : Nat) : Prop := ∀ (k i : Nat) (c d : Call), h[k]? = some c → h[i]? = some d → m.testBit i = true → m.testBit k = false → must c d = false
def dead (must : Call → Call → Bool) (h : List Call) (m : Nat) : Prop := ∃ (k i : Nat) (c d : Call), h[k]? = some c ∧ h[i]? = some d ∧ m.testBit i = true ∧ m.testBit k = false ∧ 0 < c.to ∧ must c d = true
theorem closed_ins {m i : Nat} {c : Call} (hcl : closed must h m) (hc : h[i]? = some c) (hf : freeM h must m i c = true) : closed must h (ins m i) := by
  intro k j c1 d1 hk hj hb1 hb2
  rw [ins_test, Bool.or_eq_true] at hb1
  rw [ins_test, Bool.or_eq_false_iff] at hb2
  rcases hb1 with hb | hb
  · exact hcl k j c1 d1 hk hj hb hb2.1
  · have hij : i = j := by simpa using hb
    subst hij
    rw [hc] at hj; cases hj
    simp only [freeM, Bool.and_eq_true, List.all_eq_true, List.mem_range] at hf
    have := hf.2 k (List.getElem?_eq_some_iff.1 hk).1
    rw [hb2.1, hk] at this
    simpa using this
theorem isL_ends {l : List Nat} (hok : ∀ c ∈ h, callOk c = true) (hn : nums h (cN l) = true) : isL h (cN l) = endsM h (maskL l) := by
  unfold isL full endsM
  rw [hn, Bool.true_and]
  congr 1
  refine any_congr fun i hi => ?_
  have hi := List.mem_range.1 hi
  have hc := List.getElem?_eq_getElem hi
  have hcm := List.getElem_mem hi
  generalize h[i] = c at hc hcm
  have := (callOk_iff c).1 (hok c hcm)
  rw [hc, Option.map_some, Option.map_some, Option.getD_some, Option.getD_some, maskL_test]
  have e1 : decide (c.to ≠ 0) = decide (0 < c.to) := by rw [decide_eq_decide]; omega
  have e2 : (cN l).contains (i : Int) = decide (i ∈ l) := by rw [Bool.eq_iff_iff]; simp [cN_mem]
  rw [e1, e2]
end
end Go.Am

set_option maxRecDepth 100000
set_option linter.unusedVariables false
set_option linter.unusedSimpArgs false
namespace Go.Am
open Go
section
variable (S : List Spec) (h : List Call) (hs : SpecsOk S) (hl : h.length < Lg)
include hs hl
end
end Go.Am

set_option maxRecDepth 100000
set_option linter.unusedVariables false
set_option linter.unusedSimpArgs false
namespace Go.Am
open Go
noncomputable def metM (pre : List Int) : List (D × D) := pre.foldl (fun m x => Am.mput m (.int .i64 x) (.bool true)) []
theorem metM_snoc (pre : List Int) (x : Int) : metM (pre ++ [x]) = Am.mput (metM pre) (.int .i64 x) (.bool true) := by simp [metM]
theorem metM_get (pre : List Int) (j : Int) : Am.mget (metM pre) (.int .i64 j) = if pre.contains j then some (.bool true) else none := by
  induction pre using snoc_ind with
  | h0 => rfl
  | h1 l a ih =>
    rw [metM_snoc, mget_mput, ih]
    by_cases h : a = j
    · subst h; simp
    · have h1 : ¬ (D.int .i64 a = D.int .i64 j) := fun e => h (by simpa using e)
      have h2 : (j == a) = false := by simpa using fun e : j = a => h e.symm
      rw [if_neg h1]
      have h3 : (l ++ [a]).contains j = l.contains j := by simp [List.contains_append, h2]; exact fun e => absurd e.symm h
      rw [h3]
theorem lk_met (pre : List Int) (j : Int) : lk Ar.std cB (metM pre) (.int .i64 j) = some (bif pre.contains j then some true else none) := by
  have := metM_get pre j
  show (Am.mget (metM pre) (.int .i64 j)).elim _ _ = _
  rw [this]
  cases pre.contains j <;> simp
section
variable {h : List Call}
theorem H99_eq (hl : h.length ≤ 40) (hok : ∀ c ∈ h, callOk c = true) (l : List Int) (hll : l.length < Lg) : H99 Ar.std (eCalls h) (eInts l) = some (isL h l) := by
  have hlg : h.length < Lg := (by omega : h.length < 9223372036854775808)
  have hstop := iter_stop (step := H99L0 Ar.std (eCalls h) (eInts l)) l.length (fun i => ((i : Int), metM (l.take i))) (numsAt h l) (metM (l.take l.length)) (fun i hi hb => by
    have hx := List.getElem?_eq_getElem hi
    generalize l[i] = x at hx
    have hbt : btw 0 x ((h.length : Int) - 1) = inH h x := rfl
    simp only [numsAt, hx, Option.map_some, Option.getD_some, H99L0, std_zlt, len_enc, ltC hi, cond_true, gt_enc hx, bsome, H64_eq h hlg, hbt, lk_met]
    cases hin : inH h x with
    | false => exact ⟨fun h => (by cases h), fun _ => ⟨_, rfl⟩⟩
    | true =>
      cases hcn : (l.take i).contains x with
      | true => exact ⟨fun h => (by cases h), fun _ => ⟨_, rfl⟩⟩
      | false =>
        refine ⟨fun _ => ?_, fun h => (by cases h)⟩
        simp only [cond_true, cond_false, Option.elim_none, bsome, std_wrp, std_zadd, wrap1 hi hll, std_mput, take_succ_get hx, metM_snoc]) (fun hb => by simp [H99L0])
  have e0 : ((0 : Int), ([] : List (D × D))) = (((0 : Nat) : Int), metM (l.take 0)) := rfl
  unfold H99
  rw [e0]
  rcases hstop with ⟨h1, _, h3⟩ | ⟨h1, z, h3⟩
  · rw [h3]
    simp only [bsome, Sum.elim_inl, isL, nums, h1, Bool.not_false, Bool.true_and, List.take_length]
    have e1 : iter (H99L1 Ar.std (eCalls h) (metM l)) 0 = some (bif (List.range h.length).any (fun i => (h[i]?.map fun c => decide (c.to ≠ 0) && !l.contains (i : Int)).getD false) then .inr () else .inl ()) := by
      refine iter_rng h.length _ _ _ (fun i hi => ?_) ?_
      · have hc := List.getElem?_eq_getElem hi
        have hcm := List.getElem_mem hi
        generalize h[i] = c at hc hcm
        have hto : decide (c.to ≠ 0) = decide (0 < c.2.2.2.2.2) := by have := (callOk_iff c).1 (hok c hcm); simp only [Call.to] at *; rw [decide_eq_decide]; omega
        simp only [H99L1, std_zlt, len_enc, ltC hi, cond_true, gt_enc hc, bsome, lk_met, hc, Option.map_some, Option.getD_some, hto]
        simp only [std_wrp, std_zadd, wrap1 hi (show h.length < 9223372036854775808 by omega)]
        cases decide (0 < c.2.2.2.2.2) <;> cases l.contains (i : Int) <;> rfl
      · simp [H99L1]
    rw [e1]
    unfold full
    cases (List.range h.length).any _ <;> rfl
  · rw [h3]; simp [isL, nums, h1]
theorem H100_eq (hok : ∀ c ∈ h, callOk c = true) (l : List Int) (hll : l.length < Lg) (hin : ∀ x ∈ l, inH h x = true) : H100 Ar.std (eCalls h) (eInts l) = some (keepsL bef h l) := by
  have e0 : ∀ (i : Nat) (x : Int), l[i]? = some x → iter (H100L0 Ar.std (eCalls h) x (eInts (l.take i))) 0 = some (bif (l.take i).any (fun y => bef (hc h x) (hc h y)) then .inr () else .inl ()) := by
    intro i x hx
    have hxi := hin x (List.mem_of_getElem? hx)
    refine iter_any (l.take i) _ _ _ (fun k y hy hk => ?_) (by simp [H100L0])
    have hyi := hin y (List.mem_of_mem_take (List.mem_of_getElem? hy))
    have hto : 0 ≤ (hc h x).to := by have := (callOk_iff _).1 (hok _ (hc_mem hxi)); omega
    have hlt : (l.take i).length < 9223372036854775808 := Nat.lt_of_le_of_lt (by simp; omega) hll
    simp only [H100L0, std_zlt, len_enc, ltC hk, cond_true, gt_enc hy, bsome, gt_encI (inH_iff.1 hxi).1 (hc_get hxi), gt_encI (inH_iff.1 hyi).1 (hc_get hyi), H66_eq _ _ hto, std_wrp, std_zadd, wrap1 hk hlt]
    cases bef (hc h x) (hc h y) <;> rfl
  have e : iter (H100L1 Ar.std (eCalls h) (eInts l)) 0 = some (bif (List.range l.length).any (keepsAt bef h l) then .inr () else .inl ()) := by
    refine iter_rng l.length _ _ _ (fun i hi => ?_) ?_
    · have hx := List.getElem?_eq_getElem hi
      generalize l[i] = x at hx
      simp only [H100L1, std_zlt, len_enc, ltC hi, cond_true, gt_enc hx, sl_encT (Nat.le_of_lt hi), e0 i x hx, bsome, std_wrp, std_zadd, wrap1 hi hll, keepsAt, hx, Option.map_some, Option.getD_some]
      cases (l.take i).any _ <;> rfl
    · simp [H100L1]
  simp only [H100, e, bsome, keepsL]
  cases (List.range l.length).any _ <;> rfl
theorem H101_eq {S : List Spec} (ha : areS S = true) (hok : ∀ c ∈ h, callOk c = true ∧ callIn S c) (l : List Int) (hll : l.length < Lg) (hin : ∀ x ∈ l, inH h x = true) : H101 Ar.std (eSpecs S) (eCalls h) (eInts l) = some (allowsL S h l) := by
  have hloop := iter_list (step := H101L0 Ar.std (eSpecs S) (eCalls h) (eInts l)) l (fun (s : Int × Int) i => (s.1, s.2, (i : Int))) (fun s x => bif okS S (hc h x) s then .inl (doS S (hc h x) s) else .inr (.inr ())) (fun s => .inl ()) (fun _ s => stOk S s)
    (fun i x s hx hs => by
      have hi : i < l.length := (List.getElem?_eq_some_iff.1 hx).1
      have hxi := hin x (List.mem_of_getElem? hx)
      have hcg := hc_get hxi
      have hcm := hc_mem hxi
      generalize hc h x = c at hcg hcm
      obtain ⟨hcok, hcin⟩ := hok c hcm
      have hst : H101L0 Ar.std (eSpecs S) (eCalls h) (eInts l) (s.1, s.2, (i : Int)) = some (bif okS S c s then .inl ((doS S c s).1, (doS S c s).2, ((i + 1 : Nat) : Int)) else .inr (.inr ())) := by
        simp only [H101L0, std_zlt, len_enc, ltC hi, cond_true, gt_enc hx, gt_encI (inH_iff.1 hxi).1 hcg, bsome, H78a_eq hcin hs, std_wrp, std_zadd, wrap1 hi hll]
        cases okS S c s <;> rfl
      rw [hst]
      cases hos : okS S c s with
      | true => exact .inl ⟨_, rfl, doS_ok hcin hs, rfl⟩
      | false => exact .inr ⟨_, rfl, rfl⟩)
    (fun s hs => by simp [H101L0]) (0, 0) (stOk_zero ha)
  have hfold : ∀ (l : List Int) (s : Int × Int), foldE (fun s x => bif okS S (hc h x) s then .inl (doS S (hc h x) s) else .inr (.inr ())) (fun s => (.inl () : Unit ⊕ Unit)) l s = bif allowsF S h l s then .inl () else .inr () := by
    intro l
    induction l with
    | nil => intro s; rfl
    | cons x l ih =>
      intro s
      rw [foldE_cons]
      cases hos : okS S (hc h x) s with
      | true => simp only [cond_true, Sum.elim_inl, ih, allowsF, hos, Bool.true_and]
      | false => simp only [cond_false, Sum.elim_inr, allowsF, hos, Bool.false_and]; rfl
  rw [hfold] at hloop
  have e0 : ((0 : Int), (0 : Int), (0 : Int)) = (((0, 0) : Int × Int).1, ((0, 0) : Int × Int).2, ((0 : Nat) : Int)) := rfl
  unfold H101
  rw [e0, hloop]
  unfold allowsL
  cases allowsF S h l (0, 0) <;> rfl
end
theorem isL_in {h : List Call} {l : List Int} (hn : isL h l = true) : ∀ x ∈ l, inH h x = true := by
  unfold isL at hn
  rw [Bool.and_eq_true] at hn
  exact (nums_iff.1 hn.1).1
def isOrd (S : List Spec) (h : List Call) (l : List Int) : Bool := isL h l && (keepsL bef h l && allowsL S h l)
def isOrdR (S : List Spec) (h : List Call) (l : List Int) : Bool × Int := bif decide (errH S h = 0) then (isOrd S h l, 0) else (false, errH S h)
section
variable (S : List Spec) (h : List Call) (hs : SpecsOk S) (hl : h.length < Lg) (l : List Int) (hll : l.length < Lg)
include hl hll
include hs
theorem H46_eq : H46 Ar.std (eSpecs S) (eCalls h) (eInts l) = some (isOrdR S h l) := by
  simp only [H46, H71_eq S h hs hl, bsome, std_zeq, isOrdR]
  by_cases he : errH S h = 0
  · obtain ⟨ha, hf⟩ := errH_zero he
    obtain ⟨h8, hok⟩ := forH_in ha hf
    simp only [he, decide_true, cond_true, H99_eq (show h.length ≤ 40 by omega) (fun c hc => (hok c hc).1) l hll, bsome, isOrd]
    cases hi : isL h l with
    | false => rfl
    | true =>
      simp only [cond_true, H100_eq (fun c hc => (hok c hc).1) l hll (isL_in hi), H101_eq ha hok l hll (isL_in hi), bsome]
      cases keepsL bef h l <;> rfl
  · simp [he]
theorem H44_eq : H44 Ar.std (eSpecs S) (eCalls h) (eInts l) = some (isOrdR S h l) := by
  simp only [H44, H75_eq S h hs hl, bsome, std_zeq, isOrdR]
  by_cases he : errH S h = 0
  · obtain ⟨ha, hf⟩ := errH_zero he
    obtain ⟨h8, hok⟩ := forH_in ha hf
    simp only [he, decide_true, cond_true, H93a_eq (show h.length ≤ 40 by omega) l hll, bsome, isOrd]
    cases hi : isL h l with
    | false => rfl
    | true =>
      simp only [cond_true, H94a_eq l hll (isL_in hi), H95a_eq ha hok l hll (isL_in hi), bsome]
      cases keepsL bef h l <;> rfl
  · simp [he]
end
end Go.Am

set_option maxRecDepth 100000
set_option linter.unusedVariables false
set_option linter.unusedSimpArgs false
namespace Go.Am
open Go
section
variable {h : List Call}
theorem pick_loop {step : (List D × Int) → Option ((List D × Int) ⊕ List D)} (hl : h.length ≤ 40) (p : Call → Bool)
    (hs : ∀ i c (l : List Call), h[i]? = some c → i < h.length → l.length ≤ 40 → step (eCalls l, (i : Int)) = some (.inl (eCalls (bif p c then l ++ [c] else l), ((i + 1 : Nat) : Int)))) (he : ∀ l, step (l, (h.length : Int)) = some (.inr l)) :
    iter step ([], 0) = some (eCalls (h.filter p)) := by
  have := iter_pre (step := step) h (fun pre => pre.filter p) (fun l i => (eCalls l, (i : Int))) (fun l => eCalls l)
    (fun i c hc hi => by
      rw [hs i c _ hc hi (Nat.le_trans (List.length_filter_le _ _) (by simp; omega))]
      cases hp : p c <;> simp [List.filter_append, hp]) (he _)
  exact this
def ofR (h : List Call) (o : Int) : List Call × Int := bif validH h then (bif btw 0 o 1 then (h.filter (fun c => decide (c.ob = o)), 0) else ([], 2)) else ([], 20)
theorem H88a_eq (hl : h.length ≤ 40) (x : List D) (o : Int) : H88a Ar.std (eCalls h) x o = some (eCalls (h.filter (fun c => decide (c.ob = o)))) := by
  have e := pick_loop (h := h) (step := H88aL0 Ar.std (eCalls h) x o) hl (fun c => decide (c.ob = o)) (fun i c l hc hi hll => by
    have hap : ap Ar.std (eCalls l) [.agg [.int .i64 c.1, .int .i64 c.2.1, .int .i64 c.2.2.1, .int .i64 c.2.2.2.1, .int .i64 c.2.2.2.2.1, .int .i64 c.2.2.2.2.2]] = some (eCalls (l ++ [c])) := ap_enc1 rfl (by omega)
    simp only [H88aL0, H89, std_zlt, std_zeq, len_enc, ltC hi, cond_true, gt_enc hc, bsome, hap, std_wrp, std_zadd, wrap1 hi (show h.length < 9223372036854775808 by omega), Call.ob]
    cases decide (c.2.1 = o) <;> rfl) (fun l => by simp [H88aL0])
  simp only [H88a, e, bsome]
theorem H40_eq (hl : h.length < Lg) (o : Int) : H40 Ar.std (eCalls h) o = some (eCalls (ofR h o).1, (ofR h o).2) := by
  simp only [H40, H85, H24_eq h hl, bsome, ofR, H86, H77_eq, H87]
  cases hv : validH h with
  | false => rfl
  | true =>
    obtain ⟨h8, _⟩ := validH_ok hv
    simp only [cond_true, H88a_eq (show h.length ≤ 40 by omega), bsome]
    cases btw 0 o 1 <;> rfl
end
end Go.Am

set_option maxRecDepth 100000
set_option linter.unusedVariables false
set_option linter.unusedSimpArgs false
namespace Go.Am
open Go
section
variable (S : List Spec) (h : List Call) (must : Call → Call → Bool)
def isFrom : Nat → Int × Int → List Nat → Prop
  | m, _, [] => endsM h m = true
  | m, s, i :: l => ∃ p, nextM S h must m s i = some p ∧ isFrom p.1 p.2 l
end
section
variable {S : List Spec} {h : List Call} {must : Call → Call → Bool}
theorem mem_ords : ∀ (l : List Nat) (m : Nat) (s : Int × Int), l ∈ ords S h must m s ↔ isFrom S h must m s l
  | [], m, s => by
    rw [ords_eq]
    simp only [List.mem_append, List.mem_flatMap, isFrom]
    constructor
    · rintro (hx | ⟨i, _, hx⟩)
      · cases he : endsM h m <;> rw [he] at hx <;> simp at hx ⊢
      · cases hn : nextM S h must m s i <;> rw [hn] at hx <;> simp at hx
    · intro he; rw [he]; exact .inl (by simp)
  | i :: l, m, s => by
    rw [ords_eq]
    simp only [List.mem_append, List.mem_flatMap, isFrom]
    constructor
    · rintro (hx | ⟨j, _, hx⟩)
      · cases he : endsM h m <;> rw [he] at hx <;> simp at hx
      · cases hn : nextM S h must m s j with
        | none => rw [hn] at hx; simp at hx
        | some p =>
          rw [hn] at hx
          simp only [Option.map_some, Option.getD_some, List.mem_map, List.cons.injEq] at hx
          obtain ⟨y, hy, e1, e2⟩ := hx
          subst e1
          rw [e2] at hy
          exact ⟨p, hn, (mem_ords l p.1 p.2).1 hy⟩
    · rintro ⟨p, hn, hf⟩
      refine .inr ⟨i, ?_, ?_⟩
      · obtain ⟨c, _, hi, _⟩ := nextM_some hn
        exact List.mem_range.2 hi
      · rw [hn]
        simp only [Option.map_some, Option.getD_some, List.mem_map, List.cons.injEq]
        exact ⟨l, (mem_ords l p.1 p.2).2 hf, trivial, rfl⟩
theorem nodup_flat {α β : Type} {f : α → List β} : ∀ {l : List α}, (∀ a ∈ l, (f a).Nodup) → l.Pairwise (fun a b => ∀ x ∈ f a, x ∉ f b) → (l.flatMap f).Nodup
  | [], _, _ => by simp
  | a :: l, h1, h2 => by
    rw [List.pairwise_cons] at h2
    rw [List.flatMap_cons, List.nodup_append]
    refine ⟨h1 a (by simp), nodup_flat (fun b hb => h1 b (by simp [hb])) h2.2, fun x hx y hy e => ?_⟩
    subst e
    obtain ⟨b, hb, hxb⟩ := List.mem_flatMap.1 hy
    exact h2.1 b hb x hx hxb
theorem nodup_map_cons {i : Nat} : ∀ {l : List (List Nat)}, l.Nodup → (l.map (i :: ·)).Nodup
  | [], _ => by simp
  | a :: l, h => by
    simp only [List.nodup_cons, List.map_cons, List.mem_map, not_exists, not_and] at h ⊢
    refine ⟨fun b hb e => h.1 ?_, nodup_map_cons h.2⟩
    simp only [List.cons.injEq, true_and] at e
    rw [← e]; exact hb
theorem ords_nodup : ∀ (k m : Nat) (s : Int × Int), room h m ≤ k → (ords S h must m s).Nodup := by
  intro k
  induction k with
  | zero =>
    intro m s hr
    have : ords S h must m s = (bif endsM h m then [[]] else []) := by
      unfold ords
      rw [show room h m = 0 by omega]; rfl
    rw [this]; cases endsM h m <;> simp
  | succ k ih =>
    intro m s hr
    rw [ords_eq, List.nodup_append]
    refine ⟨by cases endsM h m <;> simp, ?_, ?_⟩
    · refine nodup_flat (fun i hi => ?_) ?_
      · cases hn : nextM S h must m s i with
        | none => simp
        | some p =>
          obtain ⟨c, _, hi, ht, _, _, rfl⟩ := nextM_some hn
          have hr2 := room_ins hi ht
          simp only [Option.map_some, Option.getD_some]
          exact nodup_map_cons (ih _ _ (by omega))
      · refine List.Pairwise.imp ?_ (List.pairwise_lt_range (n := h.length))
        intro i j hij x hx hy
        cases hn : nextM S h must m s i with
        | none => rw [hn] at hx; simp at hx
        | some p =>
          cases hn2 : nextM S h must m s j with
          | none => rw [hn2] at hy; simp at hy
          | some q =>
            rw [hn] at hx; rw [hn2] at hy
            simp only [Option.map_some, Option.getD_some, List.mem_map] at hx hy
            obtain ⟨a, _, rfl⟩ := hx
            obtain ⟨b, _, e⟩ := hy
            simp only [List.cons.injEq] at e
            omega
    · intro a ha b hb e
      subst e
      cases he : endsM h m <;> rw [he] at ha <;> simp at ha
      subst ha
      simp only [List.mem_flatMap] at hb
      obtain ⟨i, _, hb⟩ := hb
      cases hn : nextM S h must m s i <;> rw [hn] at hb <;> simp at hb
theorem keepsL_iff (must : Call → Call → Bool) (h : List Call) (l : List Int) : keepsL must h l = true ↔ l.Pairwise fun y x => must (hc h x) (hc h y) = false := by
  induction l using snoc_ind with
  | h0 => simp [keepsL]
  | h1 l a ih =>
    rw [keepsL_snoc, Bool.and_eq_true, ih, List.pairwise_append]
    simp only [List.pairwise_singleton, List.mem_singleton, forall_eq, true_and, Bool.not_eq_true', List.any_eq_false, Bool.not_eq_true]
theorem full_iff {l : List Int} : full h l = true ↔ ∀ (i : Nat) c, h[i]? = some c → c.to ≠ 0 → (i : Int) ∈ l := by
  simp only [full, Bool.not_eq_true', List.any_eq_false, List.mem_range]
  constructor
  · intro hf i c hc hto
    have := hf i (List.getElem?_eq_some_iff.1 hc).1
    rw [hc] at this
    simp only [Option.map_some, Option.getD_some, Bool.and_eq_true, decide_eq_true_eq, Bool.not_eq_true', not_and, Bool.not_eq_false, List.contains_iff_mem] at this
    exact this hto
  · intro hf i hi
    have hc := List.getElem?_eq_getElem hi
    rw [hc]
    simp only [Option.map_some, Option.getD_some, Bool.and_eq_true, decide_eq_true_eq, Bool.not_eq_true', not_and, Bool.not_eq_false, List.contains_iff_mem]
    exact hf i _ hc
def isOrdM (S : List Spec) (h : List Call) (must : Call → Call → Bool) (l : List Int) : Bool := isL h l && (keepsL must h l && allowsL S h l)
theorem allowsF_app (S : List Spec) (h : List Call) : ∀ (l m : List Int) (s : Int × Int), allowsF S h (l ++ m) s = (allowsF S h l s && allowsF S h m (l.foldl (fun s x => doS S (hc h x) s) s))
  | [], m, s => by simp [allowsF]
  | x :: l, m, s => by simp only [List.cons_append, allowsF, allowsF_app S h l m, List.foldl_cons, Bool.and_assoc]
theorem runL_cN (S : List Spec) (h : List Call) (l : List Nat) : (cN l).foldl (fun s x => doS S (hc h x) s) (0, 0) = runL S h l := by
  unfold cN runL; rw [List.foldl_map]
theorem nodup_cN {l : List Nat} : (cN l).Nodup ↔ l.Nodup := by
  unfold cN
  constructor
  · intro hn
    induction l with
    | nil => simp
    | cons a l ih =>
      simp only [List.map_cons, List.nodup_cons, List.mem_map, not_exists, not_and] at hn ⊢
      exact ⟨fun ha => hn.1 a ha rfl, ih hn.2⟩
  · intro hn
    induction l with
    | nil => simp
    | cons a l ih =>
      simp only [List.map_cons, List.nodup_cons, List.mem_map, not_exists, not_and] at hn ⊢
      exact ⟨fun b hb e => hn.1 (by have : b = a := by omega
                                    rw [← this]; exact hb), ih hn.2⟩
theorem from_isOrd (hok : ∀ c ∈ h, callOk c = true) (hm : MustOk must h) : ∀ (l2 l1 : List Nat), nums h (cN l1) = true → allowsL S h (cN l1) = true → keepsL must h (cN l1) = true → closed must h (maskL l1) →
    (isFrom S h must (maskL l1) (runL S h l1) l2 ↔ isOrdM S h must (cN (l1 ++ l2)) = true)
  | [], l1, hn, ha, hk, hcl => by
    rw [List.append_nil]
    simp only [isFrom, isOrdM, hk, ha, Bool.and_true]
    rw [isL_ends hok hn]
  | i :: l2, l1, hn, ha, hk, hcl => by
    have hrange : ∀ x ∈ cN l1, inH h x = true := (nums_iff.1 hn).1
    simp only [isFrom]
    have happ : l1 ++ i :: l2 = (l1 ++ [i]) ++ l2 := by simp
    constructor
    · rintro ⟨p, hnx, hf⟩
      obtain ⟨c, hci, hi, ht, hfr, hos, rfl⟩ := nextM_some hnx
      have hhc := hc_nat hci
      have hil : i ∉ l1 := by rw [maskL_test] at ht; simpa using ht
      have h1 : nums h (cN (l1 ++ [i])) = true := by
        rw [cN_snoc, nums_iff]
        obtain ⟨n1, n2⟩ := nums_iff.1 hn
        refine ⟨fun x hx => ?_, ?_⟩
        · rw [List.mem_append, List.mem_singleton] at hx
          rcases hx with hx | rfl
          · exact n1 x hx
          · exact inH_iff.2 ⟨by omega, by omega⟩
        · rw [List.nodup_append]
          refine ⟨n2, by simp, fun x hx y hy => ?_⟩
          rw [List.mem_singleton] at hy; subst hy
          rintro rfl
          exact hil (cN_mem.1 hx)
      have h2 : allowsL S h (cN (l1 ++ [i])) = true := by rw [allowsL_snoc, ha, hhc, hos]; rfl
      have h3 : keepsL must h (cN (l1 ++ [i])) = true := by
        rw [cN_snoc, keepsL_snoc, hk, hhc, Bool.true_and, Bool.not_eq_true', List.any_eq_false]
        intro y hy
        obtain ⟨j, hj, rfl⟩ := List.mem_map.1 hy
        have := hcl i j c (hc h (j : Int)) hci (by have := hc_get (hrange _ hy); simpa using this) (by rw [maskL_test]; simpa using hj) ht
        simp [this]
      have h4 : closed must h (maskL (l1 ++ [i])) := by rw [maskL_snoc]; exact closed_ins hcl hci hfr
      have := (from_isOrd hok hm l2 (l1 ++ [i]) h1 h2 h3 h4).1 (by rw [maskL_snoc, runL_snoc, hhc]; exact hf)
      rw [happ]; exact this
    · intro ho
      have ho' := ho
      simp only [isOrdM, isL, Bool.and_eq_true] at ho
      obtain ⟨⟨o1, o2⟩, o3, o4⟩ := ho
      obtain ⟨n1, n2⟩ := nums_iff.1 o1
      have hmem : (i : Int) ∈ cN (l1 ++ i :: l2) := cN_mem.2 (by simp)
      have hii := inH_iff.1 (n1 _ hmem)
      have hi : i < h.length := by omega
      have hci := List.getElem?_eq_getElem hi
      have hcm := List.getElem_mem hi
      generalize h[i] = c at hci hcm
      have hhc := hc_nat hci
      have hnd := nodup_cN.1 n2
      have hil : i ∉ l1 := by
        rw [List.nodup_append] at hnd
        intro hx
        exact hnd.2.2 i hx i (by simp) rfl
      have ht : (maskL l1).testBit i = false := by rw [maskL_test]; simpa using hil
      have hk2 := (keepsL_iff must h _).1 o3
      have hos : okS S c (runL S h l1) = true := by
        unfold allowsL at o4
        rw [show cN (l1 ++ i :: l2) = cN l1 ++ (i : Int) :: cN l2 by simp [cN], allowsF_app, Bool.and_eq_true, runL_cN] at o4
        have := o4.2
        simp only [allowsF, Bool.and_eq_true, hhc] at this
        exact this.1
      have hfr : freeM h must (maskL l1) i c = true := by
        simp only [freeM, ht, Bool.not_false, Bool.true_and, List.all_eq_true, List.mem_range]
        intro k hkl
        have hck := List.getElem?_eq_getElem hkl
        have hckm := List.getElem_mem hkl
        generalize h[k] = d at hck hckm
        rw [hck]
        simp only [Option.map_some, Option.getD_some, Bool.or_eq_true, Bool.not_eq_true']
        by_cases hkin : k ∈ l1
        · left; rw [maskL_test]; simpa using hkin
        · right
          cases hmu : must d c with
          | false => rfl
          | true =>
            exfalso
            have hret := hm.ret d hckm c hcm hmu
            have hkm := cN_mem.1 (full_iff.1 o2 k d hck (by omega))
            have hne : k ≠ i := by
              rintro rfl
              rw [hck] at hci; cases hci
              rw [hm.irr _ hckm] at hmu; cases hmu
            have hk3 : k ∈ l2 := by
              rw [List.mem_append, List.mem_cons] at hkm
              rcases hkm with h | h | h
              · exact absurd h hkin
              · exact absurd h hne
              · exact h
            rw [show cN (l1 ++ i :: l2) = cN l1 ++ (i : Int) :: cN l2 by simp [cN], List.pairwise_append] at hk2
            have := hk2.2.1
            rw [List.pairwise_cons] at this
            have := this.1 (k : Int) (cN_mem.2 hk3)
            rw [hc_nat hck, hhc, hmu] at this
            cases this
      have hnx : nextM S h must (maskL l1) (runL S h l1) i = some (ins (maskL l1) i, doS S c (runL S h l1)) := by simp [nextM, hci, hfr, hos]
      refine ⟨_, hnx, ?_⟩
      have h1 : nums h (cN (l1 ++ [i])) = true := by
        rw [nums_iff]
        refine ⟨fun x hx => n1 x ?_, nodup_cN.2 ?_⟩
        · rw [happ, show cN (l1 ++ [i] ++ l2) = cN (l1 ++ [i]) ++ cN l2 by simp [cN]]; exact List.mem_append_left _ hx
        · rw [happ] at hnd; exact (List.nodup_append.1 hnd).1
      have h2 : allowsL S h (cN (l1 ++ [i])) = true := by rw [allowsL_snoc, ha, hhc, hos]; rfl
      have h3 : keepsL must h (cN (l1 ++ [i])) = true := by
        rw [keepsL_iff]
        rw [happ, show cN (l1 ++ [i] ++ l2) = cN (l1 ++ [i]) ++ cN l2 by simp [cN], List.pairwise_append] at hk2
        exact hk2.1
      have h4 : closed must h (maskL (l1 ++ [i])) := by rw [maskL_snoc]; exact closed_ins hcl hci hfr
      have := (from_isOrd hok hm l2 (l1 ++ [i]) h1 h2 h3 h4).2 (by rw [happ] at ho'; exact ho')
      rw [maskL_snoc, runL_snoc, hhc] at this
      exact this
theorem mem_ords0 (hok : ∀ c ∈ h, callOk c = true) (hm : MustOk must h) (l : List Nat) : l ∈ ords S h must 0 (0, 0) ↔ isOrdM S h must (cN l) = true := by
  rw [mem_ords]
  have := from_isOrd (S := S) hok hm l [] rfl rfl rfl (fun k i c d _ _ hb _ => by simp [maskL] at hb)
  exact this
end
end Go.Am

set_option maxRecDepth 100000
set_option linter.unusedVariables false
set_option linter.unusedSimpArgs false
namespace Go.Am
open Go
section
variable {S : List Spec} {h : List Call} {must : Call → Call → Bool}
theorem isOrdM_parts {l : List Int} (ho : isOrdM S h must l = true) : (∀ x ∈ l, inH h x = true) ∧ l.Nodup ∧ (∀ (i : Nat) c, h[i]? = some c → c.to ≠ 0 → (i : Int) ∈ l) ∧ l.Pairwise (fun y x => must (hc h x) (hc h y) = false) ∧ allowsL S h l = true := by
  simp only [isOrdM, isL, Bool.and_eq_true] at ho
  obtain ⟨⟨o1, o2⟩, o3, o4⟩ := ho
  obtain ⟨n1, n2⟩ := nums_iff.1 o1
  exact ⟨n1, n2, full_iff.1 o2, (keepsL_iff _ _ _).1 o3, o4⟩
end
theorem isOrd_M (S : List Spec) (h : List Call) (l : List Int) : isOrd S h l = isOrdM S h bef l := rfl
end Go.Am

set_option maxRecDepth 100000
set_option linter.unusedVariables false
set_option linter.unusedSimpArgs false
namespace Go.Am
open Go
def playOk (S : List Spec) (c : Call) : Bool := decide (c.sa = 0) && (decide (c.fr = 0) && (decide (c.to = 0) && (btw 0 c.ob ((S.length : Int) - 1) && (btw 0 c.op ((spOf S c).2.1 - 1) && btw 0 c.th 3))))
section
variable (S : List Spec) (w : List Call) (hs : SpecsOk S) (hw : w.length < Lg)
include hs hw
end
end Go.Am
namespace Go.Am
section
variable (S : List Spec) (w : List Call) (hs : SpecsOk S) (hw : w.length < Lg)
include hs hw
end
end Go.Am

set_option maxRecDepth 100000
set_option linter.unusedVariables false
set_option linter.unusedSimpArgs false
namespace Go.Am
open Go
section
variable {S : List Spec}
section
variable {w : List Call} (ha : areS S = true) (h8 : w.length ≤ 8) (hp : w.all (playOk S) = true)
include ha h8 hp
end
end
end Go.Am

set_option maxRecDepth 100000
set_option linter.unusedVariables false
set_option linter.unusedSimpArgs false
namespace Go.Am
open Go
theorem validH_pw {h : List Call} : validH h = true ↔ h.length ≤ 8 ∧ (∀ c ∈ h, callOk c = true) ∧ h.Pairwise fun d c => meet c d = false := by
  rw [validH_iff]
  constructor
  · rintro ⟨h1, h2⟩
    refine ⟨h1, fun c hc => ?_, ?_⟩
    · obtain ⟨i, hi, rfl⟩ := List.getElem_of_mem hc
      exact (h2 i _ (List.getElem?_eq_getElem hi)).1
    · rw [List.pairwise_iff_getElem]
      intro i j hi hj hij
      refine (h2 j _ (List.getElem?_eq_getElem hj)).2 _ ?_
      have hlt : i < (h.take j).length := by simp; omega
      have e : (h.take j)[i] = h[i] := List.getElem_take
      rw [← e]; exact List.getElem_mem hlt
  · rintro ⟨h1, h2, h3⟩
    refine ⟨h1, fun i c hc => ⟨h2 c (List.mem_of_getElem? hc), fun d hd => ?_⟩⟩
    obtain ⟨hi, rfl⟩ := List.getElem?_eq_some_iff.1 hc
    obtain ⟨j, hj, rfl⟩ := List.getElem_of_mem hd
    have hj1 : j < i ∧ j < h.length := by simp at hj; omega
    rw [List.getElem_take]
    exact List.pairwise_iff_getElem.1 h3 j i hj1.2 hi hj1.1
theorem validH_sub {h h' : List Call} (hv : validH h = true) (hs : h'.Sublist h) : validH h' = true := by
  obtain ⟨h1, h2, h3⟩ := validH_pw.1 hv
  exact validH_pw.2 ⟨Nat.le_trans hs.length_le h1, fun c hc => h2 c (hs.subset hc), h3.sublist hs⟩
theorem validH_nodup {h : List Call} (hv : validH h = true) : h.Nodup := by
  obtain ⟨h1, h2, h3⟩ := validH_pw.1 hv
  refine h3.imp ?_
  intro a b hm e
  subst e
  unfold meet at hm
  simp at hm
def alw (S : List Spec) : List Call → Int × Int → Bool
  | [], _ => true
  | c :: L, s => okS S c s && alw S L (doS S c s)
theorem allowsF_alw (S : List Spec) (h : List Call) : ∀ (l : List Int) (s : Int × Int), allowsF S h l s = alw S (l.map (hc h)) s
  | [], _ => rfl
  | x :: l, s => by simp only [allowsF, List.map_cons, alw, allowsF_alw S h l]
structure LinC (S : List Spec) (h L : List Call) : Prop where
  nd : L.Nodup
  sub : ∀ c ∈ L, c ∈ h
  full : ∀ c ∈ h, c.to ≠ 0 → c ∈ L
  keep : L.Pairwise fun y x => bef x y = false
  allow : alw S L (0, 0) = true
theorem lin_iff {S : List Spec} {h : List Call} (hv : validH h = true) : ords0 S h ≠ [] ↔ ∃ L, LinC S h L := by
  obtain ⟨_, hok, _⟩ := validH_pw.1 hv
  have hnd := validH_nodup hv
  constructor
  · intro hne
    obtain ⟨l, hl⟩ : ∃ l, l ∈ ords0 S h := by
      cases ho : ords0 S h with
      | nil => exact absurd ho hne
      | cons a r => exact ⟨a, by simp⟩
    obtain ⟨x1, x2, x3, x4, x5⟩ := isOrdM_parts ((mem_ords0 hok (bef_must hok) l).1 hl)
    refine ⟨(cN l).map (hc h), ?_, ?_, ?_, ?_, ?_⟩
    · rw [List.Nodup, List.pairwise_map]
      refine List.Pairwise.imp_of_mem ?_ x2
      intro a b ha hb hne e
      have ga := hc_get (x1 a ha)
      have gb := hc_get (x1 b hb)
      have ia := inH_iff.1 (x1 a ha)
      have ib := inH_iff.1 (x1 b hb)
      rw [e] at ga
      have := (List.getElem?_eq_some_iff.1 ga)
      have hb2 := (List.getElem?_eq_some_iff.1 gb)
      have heq : a.toNat = b.toNat := by
        refine (List.getElem_inj hnd (h₀ := this.1) (h₁ := hb2.1)).1 ?_
        rw [this.2, hb2.2]
      omega
    · intro c hc'
      obtain ⟨x, hx, rfl⟩ := List.mem_map.1 hc'
      exact hc_mem (x1 x hx)
    · intro c hcm hto
      obtain ⟨i, hi, rfl⟩ := List.getElem_of_mem hcm
      have hg := List.getElem?_eq_getElem hi
      exact List.mem_map.2 ⟨(i : Int), x3 i _ hg hto, hc_nat hg⟩
    · rw [List.pairwise_map]; exact x4
    · rw [← allowsF_alw]; exact x5
  · rintro ⟨L, hL⟩ hnil
    have hidx : ∀ c ∈ L, ∃ i : Nat, h[i]? = some c := fun c hcm => by
      obtain ⟨i, hi, e⟩ := List.getElem_of_mem (hL.sub c hcm)
      exact ⟨i, by rw [List.getElem?_eq_getElem hi, e]⟩
    have hl : ∃ l : List Nat, (cN l).map (hc h) = L ∧ ∀ x ∈ cN l, inH h x = true := by
      have : ∀ L : List Call, (∀ c ∈ L, ∃ i : Nat, h[i]? = some c) → ∃ l : List Nat, (cN l).map (hc h) = L ∧ ∀ x ∈ cN l, inH h x = true := by
        intro L
        induction L with
        | nil => intro _; exact ⟨[], rfl, by simp [cN]⟩
        | cons c L ih =>
          intro hx
          obtain ⟨l, h1, h2⟩ := ih (fun d hd => hx d (by simp [hd]))
          obtain ⟨i, hi⟩ := hx c (by simp)
          refine ⟨i :: l, ?_, ?_⟩
          · show hc h (i : Int) :: (cN l).map (hc h) = c :: L
            rw [hc_nat hi, h1]
          · intro x hxm
            rcases List.mem_cons.1 (show x ∈ (i : Int) :: cN l from hxm) with rfl | hxm
            · have := (List.getElem?_eq_some_iff.1 hi).1
              exact inH_iff.2 ⟨by omega, by omega⟩
            · exact h2 x hxm
      exact this L hidx
    obtain ⟨l, h1, h2⟩ := hl
    have hmem : l ∈ ords0 S h := by
      refine (mem_ords0 hok (bef_must hok) l).2 ?_
      simp only [isOrdM, isL, Bool.and_eq_true]
      refine ⟨⟨nums_iff.2 ⟨h2, ?_⟩, full_iff.2 fun i c hi hto => ?_⟩, (keepsL_iff _ _ _).2 ?_, ?_⟩
      · have := hL.nd
        rw [← h1, List.Nodup, List.pairwise_map] at this
        exact this.imp fun hq e => hq (by rw [e])
      · have hcm := hL.full c (List.mem_of_getElem? hi) hto
        rw [← h1] at hcm
        obtain ⟨x, hx, e⟩ := List.mem_map.1 hcm
        have gx := hc_get (h2 x hx)
        have ix := inH_iff.1 (h2 x hx)
        rw [e] at gx
        have a1 := List.getElem?_eq_some_iff.1 gx
        have a2 := List.getElem?_eq_some_iff.1 hi
        have : x.toNat = i := (List.getElem_inj hnd (h₀ := a1.1) (h₁ := a2.1)).1 (by rw [a1.2, a2.2])
        have : x = (i : Int) := by omega
        rw [← this]; exact hx
      · have := hL.keep
        rw [← h1, List.pairwise_map] at this
        exact this
      · show allowsF S h (cN l) (0, 0) = true
        rw [allowsF_alw, h1]; exact hL.allow
    rw [hnil] at hmem
    cases hmem
def isO (o : Int) (c : Call) : Bool := decide (c.ob = o)
theorem alw_dep (S : List Spec) : ∀ (L : List Call) (a b b' : Int), (∀ c ∈ L, c.ob = 0) → alw S L (a, b) = alw S L (a, b')
  | [], _, _, _, _ => rfl
  | c :: L, a, b, b', h => by
    have h0 := h c (by simp)
    have e1 : okS S c (a, b) = okS S c (a, b') := by simp [okS, nowOf, h0]
    have e2 : doS S c (a, b) = ((doS S c (a, b')).1, b) := by simp [doS, nowOf, h0]
    have e3 : doS S c (a, b') = ((doS S c (a, b')).1, b') := by simp [doS, nowOf, h0]
    simp only [alw, e1]
    rw [e2, e3, alw_dep S L _ b b' (fun d hd => h d (by simp [hd]))]
theorem alw_dep1 (S : List Spec) : ∀ (L : List Call) (a a' b : Int), (∀ c ∈ L, c.ob ≠ 0) → alw S L (a, b) = alw S L (a', b)
  | [], _, _, _, _ => rfl
  | c :: L, a, a', b, h => by
    have h0 := h c (by simp)
    have e1 : okS S c (a, b) = okS S c (a', b) := by simp [okS, nowOf, h0]
    have e2 : doS S c (a, b) = (a, (doS S c (a', b)).2) := by simp [doS, nowOf, h0]
    have e3 : doS S c (a', b) = (a', (doS S c (a', b)).2) := by simp [doS, nowOf, h0]
    simp only [alw, e1]
    rw [e2, e3, alw_dep1 S L a a' _ (fun d hd => h d (by simp [hd]))]
theorem alw_split (S : List Spec) : ∀ (L : List Call) (s : Int × Int), (∀ c ∈ L, c.ob = 0 ∨ c.ob = 1) → alw S L s = (alw S (L.filter (isO 0)) s && alw S (L.filter (isO 1)) s)
  | [], _, _ => rfl
  | c :: L, s, h => by
    have ih := alw_split S L (doS S c s) (fun d hd => h d (by simp [hd]))
    obtain ⟨a, b⟩ := s
    rcases h c (by simp) with h0 | h0
    · have k1 : isO 0 c = true := by simp [isO, h0]
      have k2 : isO 1 c = false := by simp [isO, h0]
      rw [List.filter_cons, List.filter_cons, k1, k2]
      simp only [if_true, Bool.false_eq_true, if_false, alw]
      rw [ih]
      have e : doS S c (a, b) = ((doS S c (a, b)).1, b) := by simp [doS, h0]
      have e2 : alw S (L.filter (isO 1)) (doS S c (a, b)) = alw S (L.filter (isO 1)) (a, b) := by
        rw [e]; exact alw_dep1 S _ _ _ _ (fun d hd => by have := (List.mem_filter.1 hd).2; simp only [isO, decide_eq_true_eq] at this; omega)
      rw [e2, Bool.and_assoc]
    · have k1 : isO 0 c = false := by simp [isO, h0]
      have k2 : isO 1 c = true := by simp [isO, h0]
      rw [List.filter_cons, List.filter_cons, k1, k2]
      simp only [if_true, Bool.false_eq_true, if_false, alw]
      rw [ih]
      have e : doS S c (a, b) = (a, (doS S c (a, b)).2) := by simp [doS, h0]
      have e2 : alw S (L.filter (isO 0)) (doS S c (a, b)) = alw S (L.filter (isO 0)) (a, b) := by
        rw [e]; exact alw_dep S _ _ _ _ (fun d hd => by have := (List.mem_filter.1 hd).2; simpa [isO] using this)
      rw [e2]
      cases okS S c (a, b) <;> cases alw S (L.filter (isO 0)) (a, b) <;> simp
theorem merge_ex : ∀ (n : Nat) (L0 L1 : List Call), L0.length + L1.length ≤ n → (∀ c ∈ L0, c.ob = 0 ∧ callOk c = true) → (∀ c ∈ L1, c.ob = 1 ∧ callOk c = true) → L0.Nodup → L1.Nodup →
    (L0.Pairwise fun y x => bef x y = false) → (L1.Pairwise fun y x => bef x y = false) →
    ∃ L : List Call, L.filter (isO 0) = L0 ∧ L.filter (isO 1) = L1 ∧ L.Nodup ∧ (L.Pairwise fun y x => bef x y = false) ∧ ∀ c, c ∈ L ↔ c ∈ L0 ∨ c ∈ L1 := by
  intro n
  induction n with
  | zero =>
    intro L0 L1 hn h0 h1 n0 n1 p0 p1
    have e0 : L0 = [] := List.length_eq_zero_iff.1 (by omega)
    have e1 : L1 = [] := List.length_eq_zero_iff.1 (by omega)
    subst e0; subst e1
    exact ⟨[], rfl, rfl, by simp, by simp, by simp⟩
  | succ n ih =>
    intro L0 L1 hn h0 h1 n0 n1 p0 p1
    have only0 : ∀ L : List Call, (∀ c ∈ L, c.ob = 0 ∧ callOk c = true) → L.filter (isO 0) = L ∧ L.filter (isO 1) = [] := fun L hL =>
      ⟨List.filter_eq_self.2 fun c hc => by simp [isO, (hL c hc).1], List.filter_eq_nil_iff.2 fun c hc => by simp [isO, (hL c hc).1]⟩
    have only1 : ∀ L : List Call, (∀ c ∈ L, c.ob = 1 ∧ callOk c = true) → L.filter (isO 1) = L ∧ L.filter (isO 0) = [] := fun L hL =>
      ⟨List.filter_eq_self.2 fun c hc => by simp [isO, (hL c hc).1], List.filter_eq_nil_iff.2 fun c hc => by simp [isO, (hL c hc).1]⟩
    cases L0 with
    | nil => exact ⟨L1, (only1 L1 h1).2, (only1 L1 h1).1, n1, p1, by simp⟩
    | cons x L0 =>
      cases L1 with
      | nil => exact ⟨x :: L0, (only0 _ h0).1, (only0 _ h0).2, n0, p0, by simp⟩
      | cons y L1 =>
        rw [List.pairwise_cons] at p0 p1
        rw [List.nodup_cons] at n0 n1
        simp only [List.length_cons] at hn
        have hx := h0 x (by simp)
        have hy := h1 y (by simp)
        have cx := (callOk_iff x).1 hx.2
        have cy := (callOk_iff y).1 hy.2
        by_cases hfirst : ∀ z ∈ y :: L1, bef z x = false
        · obtain ⟨L, f0, f1, nd, pw, mem⟩ := ih L0 (y :: L1) (by simp only [List.length_cons]; omega) (fun c hc => h0 c (by simp [hc])) h1 n0.2 (List.nodup_cons.2 n1) p0.2 (List.pairwise_cons.2 p1)
          refine ⟨x :: L, ?_, ?_, ?_, ?_, ?_⟩
          · rw [List.filter_cons, if_pos (by simp [isO, hx.1]), f0]
          · rw [List.filter_cons, if_neg (by simp [isO, hx.1]), f1]
          · rw [List.nodup_cons]
            refine ⟨fun hm => ?_, nd⟩
            rcases (mem x).1 hm with h | h
            · exact n0.1 h
            · have := (h1 x h).1; omega
          · rw [List.pairwise_cons]
            refine ⟨fun z hz => ?_, pw⟩
            rcases (mem z).1 hz with h | h
            · exact p0.1 z h
            · exact hfirst z h
          · intro c
            simp only [List.mem_cons, mem c]
            constructor
            · rintro (h | h | h)
              · exact .inl (.inl h)
              · exact .inl (.inr h)
              · exact .inr h
            · rintro ((h | h) | h)
              · exact .inl h
              · exact .inr (.inl h)
              · exact .inr (.inr h)
        · have hy' : ∃ z ∈ y :: L1, bef z x = true := by
            refine Classical.byContradiction fun hno => hfirst fun z hz => ?_
            cases hb : bef z x with
            | false => rfl
            | true => exact absurd ⟨z, hz, hb⟩ hno
          obtain ⟨z, hz, hzx⟩ := hy'
          have cz := (callOk_iff z).1 (h1 z hz).2
          have hzy : y.fr ≤ z.to := by
            rcases List.mem_cons.1 hz with rfl | hz
            · simp only [bef, Bool.and_eq_true, decide_eq_true_eq] at hzx; omega
            · have := p1.1 z hz
              simp only [bef, Bool.and_eq_true, Bool.and_eq_false_iff, decide_eq_true_eq, decide_eq_false_iff_not] at this hzx; omega
          have hsecond : ∀ u ∈ x :: L0, bef u y = false := by
            intro u hu
            cases hb : bef u y with
            | false => rfl
            | true =>
              exfalso
              have cu := (callOk_iff u).1 (h0 u hu).2
              rcases List.mem_cons.1 hu with rfl | hu
              · simp only [bef, Bool.and_eq_true, decide_eq_true_eq] at hb hzx; omega
              · have := p0.1 u hu
                simp only [bef, Bool.and_eq_true, Bool.and_eq_false_iff, decide_eq_true_eq, decide_eq_false_iff_not] at this hb hzx; omega
          obtain ⟨L, f0, f1, nd, pw, mem⟩ := ih (x :: L0) L1 (by simp only [List.length_cons]; omega) h0 (fun c hc => h1 c (by simp [hc])) (List.nodup_cons.2 n0) n1.2 (List.pairwise_cons.2 p0) p1.2
          refine ⟨y :: L, ?_, ?_, ?_, ?_, ?_⟩
          · rw [List.filter_cons, if_neg (by simp [isO, hy.1]), f0]
          · rw [List.filter_cons, if_pos (by simp [isO, hy.1]), f1]
          · rw [List.nodup_cons]
            refine ⟨fun hm => ?_, nd⟩
            rcases (mem y).1 hm with h | h
            · have := (h0 y h).1; omega
            · exact n1.1 h
          · rw [List.pairwise_cons]
            refine ⟨fun z hz => ?_, pw⟩
            rcases (mem z).1 hz with h | h
            · exact hsecond z h
            · exact p1.1 z h
          · intro c
            simp only [List.mem_cons, mem c]
            constructor
            · rintro (h | (h | h) | h)
              · exact .inr (.inl h)
              · exact .inl (.inl h)
              · exact .inl (.inr h)
              · exact .inr (.inr h)
            · rintro ((h | h) | h | h)
              · exact .inr (.inl (.inl h))
              · exact .inr (.inl (.inr h))
              · exact .inl h
              · exact .inr (.inr h)
theorem objects_iff {S : List Spec} {h : List Call} (hv : validH h = true) : ords0 S h ≠ [] ↔ ords0 S (h.filter (isO 0)) ≠ [] ∧ ords0 S (h.filter (isO 1)) ≠ [] := by
  obtain ⟨_, hok, _⟩ := validH_pw.1 hv
  have hob : ∀ c ∈ h, c.ob = 0 ∨ c.ob = 1 := fun c hc => by have := (callOk_iff c).1 (hok c hc); omega
  rw [lin_iff hv, lin_iff (validH_sub hv List.filter_sublist), lin_iff (validH_sub hv List.filter_sublist)]
  constructor
  · rintro ⟨L, hL⟩
    have hsp := alw_split S L (0, 0) (fun c hc => hob c (hL.sub c hc))
    rw [hL.allow, eq_comm, Bool.and_eq_true] at hsp
    have mk : ∀ o, alw S (L.filter (isO o)) (0, 0) = true → LinC S (h.filter (isO o)) (L.filter (isO o)) := fun o ho =>
      { nd := hL.nd.sublist List.filter_sublist
        sub := fun c hc => by have := List.mem_filter.1 hc; exact List.mem_filter.2 ⟨hL.sub c this.1, this.2⟩
        full := fun c hc hto => by have := List.mem_filter.1 hc; exact List.mem_filter.2 ⟨hL.full c this.1 hto, this.2⟩
        keep := hL.keep.sublist List.filter_sublist
        allow := ho }
    exact ⟨⟨_, mk 0 hsp.1⟩, ⟨_, mk 1 hsp.2⟩⟩
  · rintro ⟨⟨L0, h0⟩, ⟨L1, h1⟩⟩
    have o0 : ∀ c ∈ L0, c.ob = 0 ∧ callOk c = true := fun c hc => by
      have := List.mem_filter.1 (h0.sub c hc); exact ⟨by simpa [isO] using this.2, hok c this.1⟩
    have o1 : ∀ c ∈ L1, c.ob = 1 ∧ callOk c = true := fun c hc => by
      have := List.mem_filter.1 (h1.sub c hc); exact ⟨by simpa [isO] using this.2, hok c this.1⟩
    obtain ⟨L, f0, f1, nd, pw, mem⟩ := merge_ex _ L0 L1 (Nat.le_refl _) o0 o1 h0.nd h1.nd h0.keep h1.keep
    refine ⟨L, nd, fun c hc => ?_, fun c hc hto => ?_, pw, ?_⟩
    · rcases (mem c).1 hc with h | h
      · exact (List.mem_filter.1 (h0.sub c h)).1
      · exact (List.mem_filter.1 (h1.sub c h)).1
    · rcases hob c hc with h | h
      · exact (mem c).2 (.inl (h0.full c (List.mem_filter.2 ⟨hc, by simp [isO, h]⟩) hto))
      · exact (mem c).2 (.inr (h1.full c (List.mem_filter.2 ⟨hc, by simp [isO, h]⟩) hto))
    · rw [alw_split S L (0, 0) (fun c hc => by
        rcases (mem c).1 hc with h | h
        · exact .inl (o0 c h).1
        · exact .inr (o1 c h).1), f0, f1, h0.allow, h1.allow]
      rfl
theorem ofR_eq {h : List Call} (hv : validH h = true) {o : Int} (ho : o = 0 ∨ o = 1) : ofR h o = (h.filter (isO o), 0) := by
  have : btw 0 o 1 = true := by rw [btw_true]; omega
  simp only [ofR, hv, this, cond_true]; rfl
theorem forH_sub {S : List Spec} {h h' : List Call} (hf : forH S h = true) (hs : h'.Sublist h) : forH S h' = true := by
  simp only [forH, Bool.and_eq_true, List.all_eq_true] at hf ⊢
  exact ⟨validH_sub hf.1 hs, fun c hc => hf.2 c (hs.subset hc)⟩
theorem lin_of {S : List Spec} {h : List Call} (hs : SpecsOk S) (ha : areS S = true) (hf : forH S h = true) : H26 Ar.std (eSpecs S) (eCalls h) = some (!(ords0 S h).isEmpty, 0) := by
  have he : errH S h = 0 := by simp [errH, ha, hf]
  have hl : h.length < Lg := by
    obtain ⟨h8, _⟩ := forH_in ha hf
    exact (by omega : h.length < 9223372036854775808)
  rw [H26_eq S h hs hl, he]; rfl
end Go.Am

set_option maxRecDepth 100000
set_option linter.unusedVariables false
set_option linter.unusedSimpArgs false
set_option linter.unusedSectionVars false
namespace Go.Am
open Go
section
variable {τ ρ : Type} {c : Cod τ} {l : List D}
theorem ckgtT {v w n : Int} {K : τ → Option ρ} (hw : 0 ≤ w) (hv : decide (v < w) = true) (hn : n = w) :
    ((ck (Ar.std.zle 0 v)).bind fun _ => (ck (Ar.std.zlt v n)).bind fun _ => (gc Ar.std c l (Ar.std.nat (Ar.std.zadd (Ar.std.zadd 0 0) v))).bind K) = (gt Ar.std c (l.take w.toNat) v).bind K := by
  subst hn
  rw [std_zlt, hv]
  have : v < n := by simpa using hv
  by_cases h0 : 0 ≤ v
  · have h1 : v.toNat < n.toNat := by omega
    simp [gt, gc, ck, h0, List.getElem?_take, h1]
  · simp [gt, ck, h0]
end
theorem H24aL0_eq (l : List D) (v a b c d e f : Int) (h0 : 0 ≤ v) (hv : v ≤ (l.length : Int)) : H24aL0 Ar.std 0 l v a b c d e f = H24L0 Ar.std a b c d e f (l.take v.toNat) := by
  funext w
  unfold H24aL0 H24L0
  dsimp only
  have hlen : Ar.std.len (l.take v.toNat) = v := by simp; omega
  have hs : Ar.std.zsub v 0 = v := by simp
  rw [hlen, hs]
  cases hw : Ar.std.zlt w v with
  | false => rfl
  | true =>
    rw [cond_true, cond_true]
    have := ckgtT (ρ := Int ⊕ (Unit ⊕ Unit)) (c := cCall) (l := l) (v := w) (w := v) (n := v) (K := fun (a', b', c', d', e', f') => (bif Ar.std.zeq a a' then (H66 Ar.std a b c d e f a' b' c' d' e' f').bind fun r => bif r then some false else (H66 Ar.std a' b' c' d' e' f' a b c d e f).bind fun r => some (!r) else some false).bind fun v209 => bif v209 then some (.inr (.inr ())) else some (.inl (Ar.std.wrp .i64 (Ar.std.zadd w 1)))) h0 hw rfl
    rw [hw] at this
    exact this
theorem H24aL1_eq (l : List D) : H24aL1 Ar.std 0 (l.length : Int) l = H24L1 Ar.std l := by
  funext p
  obtain ⟨v, t⟩ := p
  unfold H24aL1 H24L1
  dsimp only
  cases hv : Ar.std.zlt v (l.length : Int) with
  | false => rw [std_len, hv]; rfl
  | true =>
    have hv' : decide (v < (l.length : Int)) = true := hv
    rw [std_len, hv, cond_true, cond_true]
    have hle : v ≤ (l.length : Int) := by simp at hv'; omega
    by_cases h0 : 0 ≤ v
    · have e1 : ck (Ar.std.zle 0 v) = some () := by simp [ck, h0]
      have e2 : ck (Ar.std.zlt v (l.length : Int)) = some () := by rw [hv]; rfl
      have e3 : ck (Ar.std.zle v (l.length : Int)) = some () := by simp [ck, hle]
      have e4 : ck (Ar.std.zle 0 0) = some () := rfl
      have e5 : ∀ c : Cod Call, gc Ar.std c l (Ar.std.nat (Ar.std.zadd 0 v)) = gt Ar.std c l v := by intro c; simp [gc, gt, h0]
      have e6 : sl Ar.std l 0 v = some (l.take v.toNat) := by
        have := sl_take id l v.toNat (by omega)
        simpa [Int.toNat_of_nonneg h0] using this
      rw [hv] at e2
      simp only [e1, e2, e3, e4, e5, e6, bsome, H24aL0_eq l v _ _ _ _ _ _ h0 hle]
    · have e1 : Ar.std.zle 0 v = false := by simp; omega
      have e2 : gt Ar.std cCall l v = none := by unfold gt; rw [e1]; rfl
      rw [e1, e2]; rfl
theorem H24a_eq (l : List D) : H24a Ar.std 0 (l.length : Int) l = H24 Ar.std l := by
  unfold H24a H24
  rw [H24aL1_eq, std_len]
end Go.Am

set_option maxRecDepth 100000
set_option linter.unusedVariables false
set_option linter.unusedSimpArgs false
set_option linter.unusedSectionVars false
namespace Go.Am
open Go
def longBad (h : List Call) (i b e : Int) : Bool := !btw 0 i ((h.length : Int) - 1) || ((h[i.toNat]?).map fun c => decide (c.to = 0) || (decide (c.fr < b) || decide (e < c.to))).getD true
def longC (b e : Int) (c : Call) : Call := (c.1, c.2.1, c.2.2.1, c.2.2.2.1, b, e)
def longH (h : List Call) (i b e : Int) : List Call := (h[i.toNat]?).elim h fun c => h.set i.toNat (longC b e c)
def longR (h : List Call) (i b e : Int) : List Call × Int := bif validH h then (bif longBad h i b e then ([], 2) else bif validH (longH h i b e) then (longH h i b e, 0) else ([], 2)) else ([], 20)
theorem scalCalls (h : List Call) : scalars (eCalls h) = true := by
  simp only [scalars, eCalls, enc, List.all_map, List.all_eq_true]
  intro c _
  rfl
theorem longH_len (h : List Call) (i b e : Int) : (longH h i b e).length = h.length := by
  unfold longH; cases h[i.toNat]? <;> simp
theorem fzC (h : List Call) (n : Int) (hn : n = (h.length : Int)) : fz Ar.std (eCalls h) 0 n = some (eCalls h) := by
  subst hn
  have : (eCalls h).take h.length = eCalls h := by rw [List.take_of_length_le (by simp)]
  simp [fz, this]
theorem setC (h : List Call) (i : Nat) (x y z u v w : Int) : Ar.std.lset (eCalls h) i (.agg [(.int .i64 x), (.int .i64 y), (.int .i64 z), (.int .i64 u), (.int .i64 v), (.int .i64 w)]) = eCalls (h.set i (x, y, z, u, v, w)) := enc_set (c := cCall) h i (x, y, z, u, v, w)
section
variable {h : List Call} (hl : h.length < Lg) {i b e : Int}
include hl
theorem ask_eq {n : Int} (hn : n = (h.length : Int) - 1) : ((bif btw 0 i n then
      ((gt Ar.std cCall (eCalls h) i).bind fun (a9, a10, a11, a12, a13, a14) =>
      bif (Ar.std.zeq a14 0) then
        some true
      else
        bif (Ar.std.zlt a13 b) then
          some true
        else
          some (Ar.std.zlt e a14))
    else
      some true) : Option Bool) = some (longBad h i b e) := by
  subst hn
  unfold longBad
  cases hb : btw 0 i ((h.length : Int) - 1) with
  | false => rfl
  | true =>
    obtain ⟨c, hc, h0⟩ := btwGet hb
    rw [cond_true, gt_encI h0 hc, bsome, hc]
    simp only [std_zeq, std_zlt, Bool.not_true, Bool.false_or, Option.map_some, Option.getD_some]
    by_cases h1 : c.to = 0
    · simp [h1]
    · by_cases h2 : c.fr < b <;> simp [h1, h2]
theorem two_sets (hb : longBad h i b e = false) {ρ : Type} (K : List D → Option ρ) :
    ((ck (Ar.std.zle 0 i)).bind fun _ => (ck (Ar.std.zlt i (h.length : Int))).bind fun _ =>
    (gc Ar.std cCall (eCalls h) (Ar.std.nat (Ar.std.zadd 0 i))).bind fun (a29, a30, a31, a32, a33, a34) =>
    (ck (Ar.std.zle 0 i)).bind fun _ => (ck (Ar.std.zlt i (h.length : Int))).bind fun _ =>
    (gc Ar.std cCall (Ar.std.lset (eCalls h) (Ar.std.nat (Ar.std.zadd 0 i)) (.agg [(.int .i64 a29), (.int .i64 a30), (.int .i64 a31), (.int .i64 a32), (.int .i64 b), (.int .i64 a34)])) (Ar.std.nat (Ar.std.zadd 0 i))).bind fun (a41, a42, a43, a44, a45, a46) =>
    K (Ar.std.lset (Ar.std.lset (eCalls h) (Ar.std.nat (Ar.std.zadd 0 i)) (.agg [(.int .i64 a29), (.int .i64 a30), (.int .i64 a31), (.int .i64 a32), (.int .i64 b), (.int .i64 a34)])) (Ar.std.nat (Ar.std.zadd 0 i)) (.agg [(.int .i64 a41), (.int .i64 a42), (.int .i64 a43), (.int .i64 a44), (.int .i64 a45), (.int .i64 e)]))) = K (eCalls (longH h i b e)) := by
  unfold longBad at hb
  rw [Bool.or_eq_false_iff, Bool.not_eq_false'] at hb
  obtain ⟨hb1, _⟩ := hb
  obtain ⟨c, hc, h0⟩ := btwGet hb1
  have hlt : i.toNat < h.length := by rw [btw_true] at hb1; omega
  have e1 : ck (Ar.std.zle 0 i) = some () := by simp [ck, h0]
  have e2 : ck (Ar.std.zlt i (h.length : Int)) = some () := by rw [std_zlt, decide_eq_true (by omega)]; rfl
  have e3 : Ar.std.nat (Ar.std.zadd 0 i) = i.toNat := by simp
  have e4 : gc Ar.std cCall (eCalls h) i.toNat = some c := gc_enc hc
  have e5 : gc Ar.std cCall (eCalls (h.set i.toNat (c.1, c.2.1, c.2.2.1, c.2.2.2.1, b, c.2.2.2.2.2))) i.toNat = some (c.1, c.2.1, c.2.2.1, c.2.2.2.1, b, c.2.2.2.2.2) := gc_enc (by simp [hlt])
  have e6 : longH h i b e = h.set i.toNat (c.1, c.2.1, c.2.2.1, c.2.2.2.1, b, e) := by unfold longH; rw [hc]; rfl
  simp only [e1, e2, e3, bsome, e4, setC, e5, List.set_set, e6]
end
theorem H24a_long (h : List Call) (hl : h.length < Lg) : H24a Ar.std 0 (h.length : Int) (eCalls h) = some (validH h) := by
  have := H24a_eq (eCalls h)
  rw [enc_length] at this
  rw [this, H24_eq h hl]
theorem H90_eq (h : List Call) (hl : h.length < 4294967295) : H90 Ar.std (eCalls h) = some (eCalls h) := by
  unfold H90
  rw [ap_enc0 (by omega), bsome]
  cases h0 : Ar.std.zlt 0 (Ar.std.len (eCalls h)) with
  | true => rfl
  | false =>
    have : h = [] := by simp at h0; exact h0
    subst this
    simp [both]
theorem H91_eq (h : List Call) (hl : h.length < Lg) (i b e : Int) : H91 Ar.std (eCalls h) i b e (eCalls h) 0 (h.length : Int) = some (bif longBad h i b e then (false, eCalls h) else (validH (longH h i b e), eCalls (longH h i b e))) := by
  unfold H91
  rw [H64_eq h hl, bsome, ask_eq hl rfl, bsome]
  cases hb : longBad h i b e with
  | true => rfl
  | false =>
    rw [cond_false, cond_false]
    refine Eq.trans (two_sets hl hb (fun l => (H24a Ar.std 0 (h.length : Int) l).bind fun r50 => some (r50, l))) ?_
    have hll := longH_len h i b e
    rw [← hll, H24a_long _ (by rw [hll]; exact hl), bsome]
theorem H41_eq (h : List Call) (hl : h.length < 4294967295) (i b e : Int) : H41 Ar.std (eCalls h) i b e = some (eCalls (longR h i b e).1, (longR h i b e).2) := by
  have hlg : h.length < Lg := Nat.lt_trans hl (by decide)
  unfold H41 longR
  rw [H90_eq h hl, bsome]
  cases h0 : Ar.std.zlt 0 (Ar.std.len (eCalls h)) with
  | false =>
    have : h = [] := by simp at h0; exact h0
    subst this
    have hb : longBad [] i b e = true := by simp [longBad]
    have hv : validH [] = true := by decide
    rw [cond_false, hb, hv]
    have h24 := H24_eq [] (by decide)
    have h64 := H64_eq [] (by decide) i
    have hbt : btw 0 i ((([] : List Call).length : Int) - 1) = false := by simp [btw]; omega
    rw [hbt] at h64
    simp only [H62c, h24, hv, bsome, cond_true, H91a, h64, cond_false, std_zeq]
    rfl
  | true =>
    rw [cond_true, scalCalls, ck_true, bsome, len_enc]
    unfold H62b
    rw [H24_eq h hlg, bsome, H91_eq h hlg]
    cases hv : validH h with
    | false => rfl
    | true =>
      rw [cond_true, cond_true, bsome]
      cases hb : longBad h i b e with
      | true => rfl
      | false =>
        rw [cond_false, cond_false]
        cases hv2 : validH (longH h i b e) with
        | false => rfl
        | true =>
          have hf := fzC (longH h i b e) (h.length : Int) (by rw [longH_len])
          simp only [H80, bsome, cond_true, std_zeq, decide_true, hf]
end Go.Am

set_option maxRecDepth 100000
set_option linter.unusedVariables false
set_option linter.unusedSimpArgs false
set_option linter.unusedSectionVars false
namespace Go.Am
open Go
def cutC (m : Int) (c : Call) : Call := bif decide (m < c.to) then (c.1, c.2.1, c.2.2.1, 0, c.2.2.2.2.1, 0) else c
def untH (h : List Call) (m : Int) : List Call := (h.filter fun c => decide (c.fr ≤ m)).map (cutC m)
def untR (h : List Call) (m : Int) : List Call × Int := bif validH h then (bif btw 0 m 100 then (untH h m, 0) else ([], 2)) else ([], 20)
def midL {α : Type} (f : α → α) (l : List α) (i : Nat) : List α := (l.take i).map f ++ l.drop i
theorem midL_get {α : Type} (f : α → α) {l : List α} {i : Nat} {a : α} (h : l[i]? = some a) : (midL f l i)[i]? = some a := by
  have hi : i < l.length := by rw [List.getElem?_eq_some_iff] at h; exact h.1
  unfold midL
  rw [List.getElem?_append_right (by simp; omega)]
  have : i - ((l.take i).map f).length = 0 := by simp; omega
  rw [this, List.getElem?_drop]; simpa using h
theorem midL_step {α : Type} (f : α → α) {l : List α} {i : Nat} {a : α} (h : l[i]? = some a) : midL f l (i + 1) = (l.take i).map f ++ f a :: l.drop (i + 1) := by
  unfold midL
  rw [take_succ_get h, List.map_append]; simp
theorem midL_drop {α : Type} (f : α → α) {l : List α} {i : Nat} {a : α} (h : l[i]? = some a) : midL f l i = (l.take i).map f ++ a :: l.drop (i + 1) := by
  have hi : i < l.length := by rw [List.getElem?_eq_some_iff] at h; exact h.1
  have ha : l[i] = a := by rw [List.getElem?_eq_some_iff] at h; exact h.2
  unfold midL
  rw [List.drop_eq_getElem_cons hi, ha]
theorem midL_set {α : Type} (f : α → α) {l : List α} {i : Nat} {a : α} (h : l[i]? = some a) (b : α) : (midL f l i).set i b = (l.take i).map f ++ b :: l.drop (i + 1) := by
  have hi : i < l.length := by rw [List.getElem?_eq_some_iff] at h; exact h.1
  rw [midL_drop f h, List.set_append_right _ _ (by simp; omega)]
  have : i - ((l.take i).map f).length = 0 := by simp; omega
  rw [this]; rfl
theorem midL_len {α : Type} (f : α → α) (l : List α) (i : Nat) : (midL f l i).length = l.length := by unfold midL; simp; omega
theorem midL_zero {α : Type} (f : α → α) (l : List α) : midL f l 0 = l := by simp [midL]
theorem midL_end {α : Type} (f : α → α) (l : List α) : midL f l l.length = l.map f := by simp [midL]
section
variable {h : List Call}
theorem H88b_eq (hl : h.length ≤ 40) (m : Int) : H88b Ar.std (eCalls h) m = some (eCalls (h.filter (fun c => decide (c.fr ≤ m)))) := by
  have e := pick_loop (h := h) (step := H88bL0 Ar.std (eCalls h) m) hl (fun c => decide (c.fr ≤ m)) (fun i c l hc hi hll => by
    have hap : ap Ar.std (eCalls l) [.agg [.int .i64 c.1, .int .i64 c.2.1, .int .i64 c.2.2.1, .int .i64 c.2.2.2.1, .int .i64 c.2.2.2.2.1, .int .i64 c.2.2.2.2.2]] = some (eCalls (l ++ [c])) := ap_enc1 rfl (by omega)
    simp only [H88bL0, H98, std_zlt, std_zle, len_enc, ltC hi, cond_true, gt_enc hc, bsome, hap, std_wrp, std_zadd, wrap1 hi (show h.length < 9223372036854775808 by omega), Call.fr]
    cases decide (c.2.2.2.2.1 ≤ m) <;> rfl) (fun l => by simp [H88bL0])
  simp only [H88b, e, bsome]
theorem H97L0_eq (hl : h.length < Lg) (m : Int) : iter (H97L0 Ar.std m (eCalls h)) (0, eCalls h) = some (eCalls (h.map (cutC m))) := by
  have key := iter_to (step := H97L0 Ar.std m (eCalls h)) h.length (fun i => ((i : Int), eCalls (midL (cutC m) h i))) (eCalls (midL (cutC m) h h.length)) (fun i hi => by
    have hc := List.getElem?_eq_getElem hi
    generalize h[i] = c at hc
    have e1 : ck (Ar.std.zle 0 (i : Int)) = some () := by simp [ck]
    have e2 : ck (Ar.std.zlt (i : Int) (Ar.std.len (eCalls h))) = some () := by rw [std_zlt, len_enc, ltC hi]; rfl
    have e3 : Ar.std.nat (Ar.std.zadd 0 (i : Int)) = i := by simp
    have e4 : gc Ar.std cCall (eCalls (midL (cutC m) h i)) i = some c := gc_enc (midL_get _ hc)
    have e5 : ∀ x : Call, gc Ar.std cCall (eCalls ((midL (cutC m) h i).set i x)) i = some x := fun x => gc_enc (by
      rw [List.getElem?_set]; simp [midL_len, hi])
    have e6 : Ar.std.zlt (i : Int) (Ar.std.len (eCalls h)) = true := by rw [std_zlt, len_enc, ltC hi]
    unfold H97L0
    dsimp only
    rw [e6, cond_true, e1, bsome, ck_true, bsome, e3, e4, bsome, std_zlt]
    cases hd : decide (m < c.to) with
    | false =>
      have hcut : cutC m c = c := by unfold cutC; rw [hd]; rfl
      have hm : midL (cutC m) h (i + 1) = midL (cutC m) h i := by rw [midL_step _ hc, midL_drop _ hc, hcut]
      rw [cond_false, bsome, std_wrp, std_zadd, wrap1 hi hl, hm]
    | true =>
      have hcut : cutC m c = (c.1, c.2.1, c.2.2.1, 0, c.2.2.2.2.1, 0) := by unfold cutC; rw [hd]; rfl
      rw [cond_true, bsome, setC, e5, bsome]
      dsimp only
      rw [setC, List.set_set, bsome, std_wrp, std_zadd, wrap1 hi hl, midL_set _ hc, midL_step _ hc, hcut])
    (by simp [H97L0])
  rw [midL_end] at key
  have h0 : midL (cutC m) h 0 = h := midL_zero _ _
  simp only [h0] at key
  exact key
theorem H97_eq (hl : h.length ≤ 40) (m : Int) : H97 Ar.std (eCalls h) m = some (eCalls (untH h m)) := by
  unfold H97 untH
  rw [H88b_eq hl, bsome]
  generalize hr : h.filter (fun c => decide (c.fr ≤ m)) = r
  have hrl : r.length ≤ 40 := by rw [← hr]; exact Nat.le_trans (List.length_filter_le _ _) hl
  cases h0 : Ar.std.zlt 0 (Ar.std.len (eCalls r)) with
  | false =>
    have : r = [] := by simp at h0; exact h0
    subst this
    rw [cond_false]
    have : iter (H97L1 Ar.std m (eCalls [])) 0 = some () := iter_inr rfl
    rw [this]; rfl
  | true =>
    rw [cond_true, scalCalls, ck_true, bsome, H97L0_eq (by show r.length < 9223372036854775808; omega), bsome, len_enc]
    rw [fzC _ _ (by simp), bsome]
theorem H45_eq (hl : h.length < Lg) (m : Int) : H45 Ar.std (eCalls h) m = some (eCalls (untR h m).1, (untR h m).2) := by
  simp only [H45, H85a, H24_eq h hl, bsome, untR, H96, H77_eq]
  cases hv : validH h with
  | false => rfl
  | true =>
    obtain ⟨h8, _⟩ := validH_ok hv
    simp only [cond_true, H97_eq (show h.length ≤ 40 by omega), bsome]
    cases btw 0 m 100 <;> rfl
end
end Go.Am

set_option maxRecDepth 100000
set_option linter.unusedVariables false
set_option linter.unusedSimpArgs false
set_option linter.unusedSectionVars false
namespace Go.Am
open Go
theorem cut_not {m : Int} {c : Call} (h : ¬ m < c.to) : cutC m c = c := by unfold cutC; rw [decide_eq_false h]; rfl
theorem cut_yes {m : Int} {c : Call} (h : m < c.to) : cutC m c = (c.1, c.2.1, c.2.2.1, 0, c.2.2.2.2.1, 0) := by unfold cutC; rw [decide_eq_true h]; rfl
theorem cut_th (m : Int) (c : Call) : (cutC m c).th = c.th := by by_cases h : m < c.to; rw [cut_yes h]; rw [cut_not h]
theorem cut_ob (m : Int) (c : Call) : (cutC m c).ob = c.ob := by by_cases h : m < c.to; rw [cut_yes h]; rw [cut_not h]
theorem cut_op (m : Int) (c : Call) : (cutC m c).op = c.op := by by_cases h : m < c.to; rw [cut_yes h]; rw [cut_not h]
theorem cut_fr (m : Int) (c : Call) : (cutC m c).fr = c.fr := by by_cases h : m < c.to; rw [cut_yes h]; rw [cut_not h]
theorem cut_to (m : Int) (c : Call) : (cutC m c).to = c.to ∧ ¬ m < c.to ∨ (cutC m c).to = 0 ∧ m < c.to := by
  by_cases h : m < c.to
  · right; rw [cut_yes h]; exact ⟨rfl, h⟩
  · left; rw [cut_not h]; exact ⟨rfl, h⟩
theorem cut_ok {m : Int} {c : Call} (h : callOk c = true) : callOk (cutC m c) = true := by
  by_cases hm : m < c.to
  · rw [cut_yes hm]
    obtain ⟨h1, h2, h3, h4, h5, h6⟩ := (callOk_iff c).1 h
    exact (callOk_iff _).2 ⟨h1, h2, h3, ⟨Int.le_refl 0, by show (0 : Int) ≤ 9; omega⟩, h5, .inl ⟨rfl, rfl⟩⟩
  · rw [cut_not hm]; exact h
theorem meet_iff (c d : Call) : meet c d = true ↔ (c.fr = d.fr ∨ c.fr = d.to ∨ c.to = d.fr ∨ (c.to ≠ 0 ∧ c.to = d.to)) ∨ (c.th = d.th ∧ ¬ (c.to ≠ 0 ∧ c.to < d.fr) ∧ ¬ (d.to ≠ 0 ∧ d.to < c.fr)) := by
  simp only [meet, bef, Bool.or_eq_true, Bool.and_eq_true, decide_eq_true_eq, Bool.not_eq_true', Bool.and_eq_false_iff, decide_eq_false_iff_not, not_and]
  constructor
  · rintro (h | ⟨h1, h2, h3⟩)
    · exact .inl h
    · refine .inr ⟨h1, fun h => ?_, fun h => ?_⟩
      · rcases h2 with h2 | h2
        · exact absurd h h2
        · exact h2
      · rcases h3 with h3 | h3
        · exact absurd h h3
        · exact h3
  · rintro (h | ⟨h1, h2, h3⟩)
    · exact .inl h
    · refine .inr ⟨h1, ?_, ?_⟩
      · by_cases h : c.to ≠ 0
        · exact .inr (h2 h)
        · exact .inl h
      · by_cases h : d.to ≠ 0
        · exact .inr (h3 h)
        · exact .inl h
theorem meet_no {c d : Call} : meet c d = false ↔ ¬ ((c.fr = d.fr ∨ c.fr = d.to ∨ c.to = d.fr ∨ (c.to ≠ 0 ∧ c.to = d.to)) ∨ (c.th = d.th ∧ ¬ (c.to ≠ 0 ∧ c.to < d.fr) ∧ ¬ (d.to ≠ 0 ∧ d.to < c.fr))) := by
  rw [← meet_iff]; simp
theorem cut_meet {m : Int} {c d : Call} (hc : callOk c = true) (hd : callOk d = true) (hcm : c.fr ≤ m) (hdm : d.fr ≤ m) (h : meet c d = false) : meet (cutC m c) (cutC m d) = false := by
  rw [meet_no] at h ⊢
  have c1 := (callOk_iff c).1 hc
  have d1 := (callOk_iff d).1 hd
  rw [cut_fr, cut_fr, cut_th, cut_th]
  generalize c.th = cth at *
  generalize d.th = dth at *
  rcases cut_to m c with ⟨e, e'⟩ | ⟨e, e'⟩ <;> rcases cut_to m d with ⟨f, f'⟩ | ⟨f, f'⟩ <;> rw [e, f] <;> omega
theorem pairwise_map' {α β : Type} {R : β → β → Prop} {f : α → β} {l : List α} (h : l.Pairwise fun a b => R (f a) (f b)) : (l.map f).Pairwise R := by
  rw [List.pairwise_map]; exact h
theorem unt_valid {h : List Call} (hv : validH h = true) (m : Int) : validH (untH h m) = true := by
  obtain ⟨h8, hok, hpw⟩ := validH_pw.1 hv
  refine validH_pw.2 ⟨?_, ?_, ?_⟩
  · unfold untH; rw [List.length_map]; exact Nat.le_trans (List.length_filter_le _ _) h8
  · intro c hc
    obtain ⟨d, hd, rfl⟩ := List.mem_map.1 hc
    exact cut_ok (hok d (List.mem_filter.1 hd).1)
  · refine pairwise_map' ?_
    have := (hpw.sublist (List.filter_sublist (p := fun c => decide (c.fr ≤ m))))
    refine List.Pairwise.imp_of_mem ?_ this
    intro a b ha hb hab
    have ha := List.mem_filter.1 ha
    have hb := List.mem_filter.1 hb
    exact cut_meet (hok b hb.1) (hok a ha.1) (by simpa using hb.2) (by simpa using ha.2) hab
theorem cut_fit (l : List Spec) (m : Int) (c : Call) : fitC l (cutC m c) = fitC l c := by
  unfold fitC
  have h1 : (cutC m c).2.1 = c.2.1 := cut_ob m c
  have h2 : (cutC m c).2.2.1 = c.2.2.1 := cut_op m c
  simp only [Call.ob, Call.op, h1, h2]
theorem unt_for {S : List Spec} {h : List Call} (hf : forH S h = true) (m : Int) : forH S (untH h m) = true := by
  simp only [forH, Bool.and_eq_true, List.all_eq_true] at hf ⊢
  refine ⟨unt_valid hf.1 m, fun c hc => ?_⟩
  obtain ⟨d, hd, rfl⟩ := List.mem_map.1 hc
  rw [cut_fit]
  exact hf.2 d (List.mem_filter.1 hd).1
def upTo {α : Type} (p : α → Bool) : List α → List α
  | [] => []
  | c :: L => bif (c :: L).any p then c :: upTo p L else []
theorem upTo_sub {α : Type} (p : α → Bool) : ∀ L : List α, (upTo p L).Sublist L
  | [] => .slnil
  | c :: L => by
    unfold upTo
    cases (c :: L).any p with
    | true => exact (upTo_sub p L).cons_cons c
    | false => exact List.nil_sublist _
theorem upTo_mem {α : Type} (p : α → Bool) : ∀ (L : List α) (x : α), x ∈ L → p x = true → x ∈ upTo p L
  | c :: L, x, hx, hp => by
    unfold upTo
    have : (c :: L).any p = true := List.any_eq_true.2 ⟨x, hx, hp⟩
    rw [this, cond_true]
    rcases List.mem_cons.1 hx with rfl | hx
    · exact List.mem_cons_self
    · exact List.mem_cons_of_mem _ (upTo_mem p L x hx hp)
theorem upTo_pre {α : Type} (p : α → Bool) {R : α → α → Prop} : ∀ (L : List α), L.Pairwise R → ∀ x ∈ upTo p L, p x = true ∨ ∃ y ∈ L, p y = true ∧ R x y
  | [], _, x, hx => by cases hx
  | c :: L, hpw, x, hx => by
    unfold upTo at hx
    cases ha : (c :: L).any p with
    | false => rw [ha] at hx; cases hx
    | true =>
      rw [ha, cond_true] at hx
      rw [List.pairwise_cons] at hpw
      rcases List.mem_cons.1 hx with rfl | hx
      · obtain ⟨y, hy, hpy⟩ := List.any_eq_true.1 ha
        rcases List.mem_cons.1 hy with rfl | hy
        · exact .inl hpy
        · exact .inr ⟨y, List.mem_cons_of_mem _ hy, hpy, hpw.1 y hy⟩
      · rcases upTo_pre p L hpw.2 x hx with h | ⟨y, hy, h1, h2⟩
        · exact .inl h
        · exact .inr ⟨y, List.mem_cons_of_mem _ hy, h1, h2⟩
theorem upTo_alw (S : List Spec) (p : Call → Bool) : ∀ (L : List Call) (s : Int × Int), alw S L s = true → alw S (upTo p L) s = true
  | [], _, _ => rfl
  | c :: L, s, h => by
    unfold upTo
    simp only [alw, Bool.and_eq_true] at h
    cases (c :: L).any p with
    | false => rfl
    | true =>
      rw [cond_true]
      simp only [alw, Bool.and_eq_true]
      exact ⟨h.1, upTo_alw S p L _ h.2⟩
theorem cut_do (S : List Spec) (m : Int) (c : Call) (s : Int × Int) : doS S (cutC m c) s = doS S c s := by
  have h1 : (cutC m c).2.1 = c.2.1 := cut_ob m c
  have h2 : (cutC m c).2.2.1 = c.2.2.1 := cut_op m c
  simp only [doS, nowOf, spOf, Call.ob, Call.op, h1, h2]
theorem cut_okS (S : List Spec) (m : Int) (c : Call) (s : Int × Int) (h : okS S c s = true) : okS S (cutC m c) s = true := by
  by_cases hm : m < c.to
  · rw [cut_yes hm]; simp [okS]
  · rw [cut_not hm]; exact h
theorem cut_alw (S : List Spec) (m : Int) : ∀ (L : List Call) (s : Int × Int), alw S L s = true → alw S (L.map (cutC m)) s = true
  | [], _, _ => rfl
  | c :: L, s, h => by
    simp only [alw, Bool.and_eq_true] at h
    simp only [List.map_cons, alw, Bool.and_eq_true, cut_do]
    exact ⟨cut_okS S m c s h.1, cut_alw S m L _ h.2⟩
theorem fr_ne : ∀ {h : List Call}, h.Pairwise (fun d c => meet c d = false) → ∀ a ∈ h, ∀ b ∈ h, a.fr = b.fr → a = b
  | [], _, a, ha, _, _, _ => by cases ha
  | c :: h, hpw, a, ha, b, hb, e => by
    rw [List.pairwise_cons] at hpw
    rcases List.mem_cons.1 ha with rfl | ha' <;> rcases List.mem_cons.1 hb with rfl | hb'
    · rfl
    · exact absurd (Or.inl (Or.inl e.symm)) (meet_no.1 (hpw.1 b hb'))
    · exact absurd (Or.inl (Or.inl e)) (meet_no.1 (hpw.1 a ha'))
    · exact fr_ne hpw.2 a ha' b hb' e
theorem nodup_map {α β : Type} {f : α → β} : ∀ {l : List α}, l.Nodup → (∀ a ∈ l, ∀ b ∈ l, f a = f b → a = b) → (l.map f).Nodup
  | [], _, _ => .nil
  | a :: l, hn, hi => by
    rw [List.nodup_cons] at hn
    rw [List.map_cons, List.nodup_cons]
    refine ⟨fun hm => ?_, nodup_map hn.2 (fun x hx y hy => hi x (List.mem_cons_of_mem _ hx) y (List.mem_cons_of_mem _ hy))⟩
    obtain ⟨b, hb, e⟩ := List.mem_map.1 hm
    have := hi b (List.mem_cons_of_mem _ hb) a List.mem_cons_self e
    exact hn.1 (this ▸ hb)
theorem unt_lin {S : List Spec} {h L : List Call} (hv : validH h = true) (hL : LinC S h L) (m : Int) : ∃ L', LinC S (untH h m) L' := by
  obtain ⟨_, hok, hpw⟩ := validH_pw.1 hv
  have hsub := upTo_sub (fun c : Call => decide (c.to ≠ 0) && decide (c.to ≤ m)) L
  generalize hU : upTo (fun c : Call => decide (c.to ≠ 0) && decide (c.to ≤ m)) L = U at hsub
  have hfr : ∀ c ∈ U, c.fr ≤ m := by
    intro c hc
    have hcL := hsub.subset hc
    have c1 := (callOk_iff c).1 (hok c (hL.sub c hcL))
    rw [← hU] at hc
    rcases upTo_pre _ L hL.keep c hc with h1 | ⟨y, hy, h1, h2⟩
    · simp only [Bool.and_eq_true, decide_eq_true_eq] at h1; omega
    · simp only [Bool.and_eq_true, decide_eq_true_eq] at h1
      simp only [bef, Bool.and_eq_false_iff, decide_eq_false_iff_not] at h2
      rcases h2 with h2 | h2
      · exact absurd h1.1 h2
      · omega
  refine ⟨U.map (cutC m), nodup_map (hL.nd.sublist hsub) (fun a ha b hb e => ?_), fun c hc => ?_, fun c hc hto => ?_, ?_, ?_⟩
  · refine fr_ne hpw a (hL.sub a (hsub.subset ha)) b (hL.sub b (hsub.subset hb)) ?_
    rw [← cut_fr m a, ← cut_fr m b, e]
  · obtain ⟨d, hd, rfl⟩ := List.mem_map.1 hc
    exact List.mem_map_of_mem (List.mem_filter.2 ⟨hL.sub d (hsub.subset hd), decide_eq_true (hfr d hd)⟩)
  · obtain ⟨d, hd, rfl⟩ := List.mem_map.1 hc
    refine List.mem_map_of_mem ?_
    have hd := List.mem_filter.1 hd
    rcases cut_to m d with ⟨e, e'⟩ | ⟨e, _⟩
    · rw [e] at hto
      rw [← hU]
      refine upTo_mem _ L d (hL.full d hd.1 hto) ?_
      simp only [Bool.and_eq_true, decide_eq_true_eq]
      exact ⟨hto, by omega⟩
    · exact absurd e hto
  · refine pairwise_map' ((hL.keep.sublist hsub).imp ?_)
    intro a b hab
    simp only [bef, Bool.and_eq_false_iff, decide_eq_false_iff_not] at hab ⊢
    rw [cut_fr]
    rcases cut_to m b with ⟨e, _⟩ | ⟨e, _⟩
    · rw [e]; exact hab
    · rw [e]; exact .inl (by simp)
  · exact cut_alw S m U (0, 0) (by rw [← hU]; exact upTo_alw S _ L (0, 0) hL.allow)
theorem mod101 {x : Int} (h : 0 ≤ x ∧ x < 256) : Ar.std.rem (Ar.std.wrp .i64 x) 101 = x % 101 := by
  rw [std_wrp, i64w x (by omega) (by omega), std_rem, Int.tmod_eq_emod_of_nonneg h.1]
end Go.Am

set_option maxRecDepth 100000
set_option linter.unusedVariables false
set_option linter.unusedSimpArgs false
set_option linter.unusedSectionVars false
namespace Go.Am
open Go
structure Wider (c d : Call) : Prop where
  ob : d.ob = c.ob
  op : d.op = c.op
  sa : d.sa = c.sa
  to0 : d.to = 0 ↔ c.to = 0
  fr : d.fr ≤ c.fr
  to : c.to ≤ d.to
theorem Wider.refl (c : Call) : Wider c c := ⟨rfl, rfl, rfl, Iff.rfl, Int.le_refl _, Int.le_refl _⟩
theorem Wider.ok {S : List Spec} {c d : Call} (h : Wider c d) (s : Int × Int) : okS S d s = okS S c s := by
  have h1 : d.2.1 = c.2.1 := h.ob
  have h2 : d.2.2.1 = c.2.2.1 := h.op
  have h3 : d.2.2.2.1 = c.2.2.2.1 := h.sa
  have h4 : decide (d.to = 0) = decide (c.to = 0) := decide_eq_decide.2 h.to0
  simp only [okS, nowOf, spOf, h4]
  simp only [Call.ob, Call.op, Call.sa, h1, h2, h3]
  rfl
theorem Wider.go {S : List Spec} {c d : Call} (h : Wider c d) (s : Int × Int) : doS S d s = doS S c s := by
  have h1 : d.2.1 = c.2.1 := h.ob
  have h2 : d.2.2.1 = c.2.2.1 := h.op
  simp only [doS, nowOf, spOf, Call.ob, Call.op, h1, h2]
theorem Wider.fit {S : List Spec} {c d : Call} (h : Wider c d) : fitC S d = fitC S c := by
  have h1 : d.2.1 = c.2.1 := h.ob
  have h2 : d.2.2.1 = c.2.2.1 := h.op
  simp only [fitC, Call.ob, Call.op, h1, h2]
theorem Wider.bef {c c' d d' : Call} (hc : Wider c c') (hd : Wider d d') (h : bef c d = false) : bef c' d' = false := by
  simp only [Am.bef, Bool.and_eq_false_iff, decide_eq_false_iff_not] at h ⊢
  have h1 := hc.to0
  have h2 := hc.to
  have h3 := hd.fr
  rcases h with h | h
  · left; exact fun h' => h (fun h0 => h' (h1.2 h0))
  · right; omega
theorem wider_alw {S : List Spec} {f g : Int → Call} (h : ∀ x, Wider (f x) (g x)) : ∀ (l : List Int) (s : Int × Int), alw S (l.map g) s = alw S (l.map f) s
  | [], _ => rfl
  | x :: l, s => by simp only [List.map_cons, alw, (h x).ok, (h x).go, wider_alw h l]
section
variable {S : List Spec} {h h' : List Call} (hlen : h'.length = h.length) (hw : ∀ x, Wider (hc h x) (hc h' x))
include hlen hw
theorem wider_ord {l : List Int} (ho : isOrdM S h bef l = true) : isOrdM S h' bef l = true := by
  unfold isOrdM isL at ho ⊢
  simp only [Bool.and_eq_true] at ho ⊢
  obtain ⟨⟨h1, h2⟩, h3, h4⟩ := ho
  refine ⟨⟨?_, ?_⟩, ?_, ?_⟩
  · have : nums h' l = nums h l := by
      unfold nums
      congr 2
      funext i
      unfold numsAt inH
      rw [hlen]
    rw [this]; exact h1
  · rw [full_iff] at h2 ⊢
    intro i c hi hto
    have hlt : i < h.length := by
      rw [List.getElem?_eq_some_iff] at hi; rw [← hlen]; exact hi.1
    have hci : hc h' (i : Int) = c := by simp [hc, List.getD_eq_getElem?_getD, hi]
    have hdi : hc h (i : Int) = h[i] := by simp [hc, List.getD_eq_getElem?_getD, List.getElem?_eq_getElem hlt]
    refine h2 i _ (List.getElem?_eq_getElem hlt) ?_
    have := (hw i).to0
    rw [hci, hdi] at this
    intro h0
    exact hto (this.2 h0)
  · rw [keepsL_iff] at h3 ⊢
    exact h3.imp fun {a b} hab => (hw b).bef (hw a) hab
  · unfold allowsL at h4 ⊢
    rw [allowsF_alw] at h4 ⊢
    rw [wider_alw hw]
    exact h4
end
theorem nodup_le {α : Type} [DecidableEq α] : ∀ {l m : List α}, l.Nodup → (∀ x ∈ l, x ∈ m) → l.length ≤ m.length
  | [], _, _, _ => Nat.zero_le _
  | a :: l, m, hn, hs => by
    rw [List.nodup_cons] at hn
    have ha := hs a List.mem_cons_self
    have := nodup_le (l := l) (m := m.erase a) hn.2 (fun x hx => (List.mem_erase_of_ne (by rintro rfl; exact hn.1 hx)).2 (hs x (List.mem_cons_of_mem _ hx)))
    rw [List.length_erase_of_mem ha] at this
    have h0 : 0 < m.length := List.length_pos_of_mem ha
    simp only [List.length_cons]; omega
theorem wider_count {S : List Spec} {h h' : List Call} (hlen : h'.length = h.length) (hw : ∀ x, Wider (hc h x) (hc h' x)) (hok : ∀ c ∈ h, callOk c = true) (hok' : ∀ c ∈ h', callOk c = true) :
    (ords0 S h).length ≤ (ords0 S h').length := by
  refine nodup_le (ords_nodup _ 0 (0, 0) (Nat.le_refl _)) (fun l hl => ?_)
  exact (mem_ords0 hok' (bef_must hok') l).2 (wider_ord hlen hw ((mem_ords0 hok (bef_must hok) l).1 hl))
theorem long_wider {h : List Call} {i b e : Int} (hok : ∀ c ∈ h, callOk c = true) (hb : longBad h i b e = false) (x : Int) : Wider (hc h x) (hc (longH h i b e) x) := by
  unfold longBad at hb
  rw [Bool.or_eq_false_iff, Bool.not_eq_false'] at hb
  obtain ⟨hb1, hb2⟩ := hb
  obtain ⟨c, hc', h0⟩ := btwGet hb1
  have hlt : i.toNat < h.length := by rw [btw_true] at hb1; omega
  rw [hc'] at hb2
  simp only [Option.map_some, Option.getD_some, Bool.or_eq_false_iff, decide_eq_false_iff_not] at hb2
  obtain ⟨t0, t1, t2⟩ := hb2
  have e6 : longH h i b e = h.set i.toNat (longC b e c) := by unfold longH; rw [hc']; rfl
  rw [e6]
  unfold hc
  rw [List.getD_eq_getElem?_getD, List.getD_eq_getElem?_getD, List.getElem?_set]
  by_cases hx : i.toNat = x.toNat
  · rw [if_pos hx, if_pos hlt, ← hx, hc']
    refine ⟨rfl, rfl, rfl, ?_, ?_, ?_⟩
    · show e = 0 ↔ c.to = 0
      have c1 := (callOk_iff c).1 (hok c (List.mem_of_getElem? hc'))
      omega
    · show b ≤ c.fr
      omega
    · show c.to ≤ e
      omega
  · rw [if_neg hx]; exact Wider.refl _
end Go.Am

set_option maxRecDepth 100000
set_option linter.unusedVariables false
set_option linter.unusedSimpArgs false
set_option linter.unusedSectionVars false
namespace Go.Am
open Go
theorem long_for {S : List Spec} {h : List Call} {i b e : Int} (hf : forH S h = true) (hb : longBad h i b e = false) (hv : validH (longH h i b e) = true) : forH S (longH h i b e) = true := by
  simp only [forH, Bool.and_eq_true, List.all_eq_true] at hf ⊢
  refine ⟨hv, fun c hc' => ?_⟩
  obtain ⟨j, hj, rfl⟩ := List.getElem_of_mem hc'
  have hj' : j < h.length := by rw [longH_len] at hj; exact hj
  have hw := long_wider (validH_ok hf.1).2 hb (j : Int)
  have e1 : hc h (j : Int) = h[j] := by simp [hc, List.getD_eq_getElem?_getD, List.getElem?_eq_getElem hj']
  have e2 : hc (longH h i b e) (j : Int) = (longH h i b e)[j] := by simp [hc, List.getD_eq_getElem?_getD, List.getElem?_eq_getElem hj]
  rw [e1, e2] at hw
  rw [hw.fit]
  exact hf.2 _ (List.getElem_mem hj')
theorem long_count {S : List Spec} {h : List Call} {i b e : Int} (hv0 : validH h = true) (hb : longBad h i b e = false) (hv : validH (longH h i b e) = true) : (ords0 S h).length ≤ (ords0 S (longH h i b e)).length :=
  wider_count (longH_len h i b e) (long_wider (validH_ok hv0).2 hb) (validH_ok hv0).2 (validH_ok hv).2
theorem longR_cases {h : List Call} (hv : validH h = true) (i b e : Int) : longR h i b e = ([], 2) ∨ longR h i b e = (longH h i b e, 0) ∧ longBad h i b e = false ∧ validH (longH h i b e) = true := by
  unfold longR
  rw [hv, cond_true]
  cases hb : longBad h i b e with
  | true => exact .inl rfl
  | false =>
    cases hv2 : validH (longH h i b e) with
    | false => exact .inl rfl
    | true => exact .inr ⟨rfl, rfl, rfl⟩
end Go.Am
