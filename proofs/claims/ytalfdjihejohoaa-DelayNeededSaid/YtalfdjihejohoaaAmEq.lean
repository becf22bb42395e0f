/- Values that are compared cell by cell; keys of maps. -/
import Derived.Test.YtalfdjihejohoaaAmPure
import Derived.Laws.StructEq
import Derived.ChangeKeysEq
import Derived.DeepKeys3
import Derived.MapKept
set_option linter.unusedSimpArgs false
set_option linter.unusedSectionVars false
set_option linter.unusedVariables false
namespace Go.Am
open Go

theorem conf_length : ∀ {ks : List CK} {xs : List D}, confD ks xs = true → xs.length = ks.length
  | [], [], _ => rfl
  | [], _ :: _, h => by simp [confD] at h
  | _ :: _, [], h => by simp [confD] at h
  | k :: ks, x :: xs, h => by
    simp only [confD, Bool.and_eq_true] at h
    simp [conf_length h.2]
theorem conf_append : ∀ {ks ks' : List CK} {xs : List D}, confD (ks ++ ks') xs = true → confD ks (xs.take ks.length) = true ∧ confD ks' (xs.drop ks.length) = true
  | [], ks', xs, h => ⟨by simp [confD], by simpa using h⟩
  | k :: ks, ks', [], h => by simp [confD] at h
  | k :: ks, ks', x :: xs, h => by
    simp only [List.cons_append, confD, Bool.and_eq_true] at h
    obtain ⟨h1, h2⟩ := conf_append h.2
    simp only [List.length_cons, List.take_succ_cons, List.drop_succ_cons, confD, Bool.and_eq_true]
    exact ⟨⟨h.1, h1⟩, h2⟩
theorem fits_rep {K : Addr → Option Value} {k : CK} {x : D} {v : Value} (hf : k.fits x = true) (h : RepD K x v) : v = x.sval := by
  cases k <;> cases x <;> simp [CK.fits] at hf <;> cases h <;> rfl
theorem fits_rep' {K : Addr → Option Value} {k : CK} {x : D} (hf : k.fits x = true) : RepD K x x.sval := by
  cases k <;> cases x <;> simp [CK.fits] at hf
  · exact .int _ _
  · exact .bool _
  · exact .str _
theorem fits_one {k : CK} {x : D} (hf : k.fits x = true) : x.sval.oneCell' = true ∧ x.cells = [x] := by
  cases k <;> cases x <;> simp [CK.fits] at hf <;> exact ⟨rfl, rfl⟩
theorem conf_rep {K : Addr → Option Value} : ∀ {ks : List CK} {xs : List D} {vs : List Value}, confD ks xs = true → vs.length = xs.length → (∀ (i : Nat) (hi : i < xs.length), RepD K xs[i] (vs.getD i Go.undef)) → vs = xs.map D.sval
  | [], [], [], _, _, _ => rfl
  | k :: ks, x :: xs, [], _, hl, _ => by simp at hl
  | k :: ks, x :: xs, v :: vs, h, hl, hr => by
    simp only [confD, Bool.and_eq_true] at h
    have h0 := hr 0 (by simp)
    simp only [List.getElem_cons_zero, List.getD_cons_zero] at h0
    rw [fits_rep h.1 h0, conf_rep (K := K) (ks := ks) (xs := xs) (vs := vs) h.2 (by simpa using hl) (fun i hi => by
      have := hr (i + 1) (by simp; omega)
      simpa using this)]
    rfl
  | [], _ :: _, _, h, _, _ => by simp [confD] at h
  | _ :: _, [], _, h, _, _ => by simp [confD] at h
theorem conf_get : ∀ {ks : List CK} {xs : List D}, confD ks xs = true → ∀ (i : Nat) (hi : i < xs.length) (hk : i < ks.length), (ks[i]).fits xs[i] = true
  | k :: ks, x :: xs, h, i, hi, hk => by
    simp only [confD, Bool.and_eq_true] at h
    cases i with
    | zero => exact h.1
    | succ i => exact conf_get h.2 i (by simpa using hi) (by simpa using hk)
  | [], xs, _, i, _, hk => by simp at hk
  | _ :: _, [], _, i, hi, _ => by simp at hi
theorem conf_rep' {K : Addr → Option Value} {ks : List CK} {xs : List D} (h : confD ks xs = true) (i : Nat) (hi : i < xs.length) : RepD K xs[i] ((xs.map D.sval).toArray.getD i Go.undef) ∧ ((xs.map D.sval).toArray.getD i Go.undef).oneCell' = true := by
  have hf := conf_get h i hi (by rw [← conf_length h]; exact hi)
  have e : (xs.map D.sval).toArray.getD i Go.undef = (xs[i]).sval := by simp [Array.getD, hi]
  rw [e]
  exact ⟨fits_rep' hf, (fits_one hf).1⟩

section
variable {P : Program} {T : Types} (hT : TOk P T)
include hT

theorem ksOf_size {n : Nat} {t : TypeId} {ks : List CK} (h : ksOf T n t = some ks) : ∃ m td, n = m + 1 ∧ T t = some td ∧ ksU (ksOf T m) td.u = some ks ∧ ks.length = td.size := by
  cases n with
  | zero => simp [ksOf] at h
  | succ m =>
    simp only [ksOf] at h
    split at h
    · rename_i td ht
      split at h
      · rename_i ks' hk
        split at h
        · rename_i hl; cases h; exact ⟨m, td, rfl, ht, hk, hl⟩
        · cases h
      · cases h
    · cases h

theorem part_ks {n : Nat} {t : TypeId} {ks : List CK} (h : ksOf T n t = some ks) {td : TD} (ht : T t = some td) {xs : List D} {off : Nat} (hoff : off + ks.length ≤ xs.length) (w : World) :
    (part t (xs.map D.sval).toArray off).run P w = .ok (mkV td.isAgg ((xs.drop off).take ks.length)) w := by
  obtain ⟨m, td', rfl, ht', hk, hl⟩ := ksOf_size hT h
  rw [ht] at ht'; cases ht'
  unfold part
  simp only [Sem.run_bind, hT.isAgg ht, Result.andThen_ok]
  by_cases ha : td.isAgg = true
  · simp only [ha, if_true, Sem.run_bind, hT.size ht, Result.andThen_ok, Sem.run_pure, mkV]
    congr 2
    apply Array.ext'
    simp [Array.toList_extract, List.extract, hl]
  · simp only [ha, Bool.false_eq_true, if_false, mkV]
    have h1 : ks.length = 1 := by
      obtain ⟨sz, u, z⟩ := td
      cases u <;> simp [ksU] at hk <;> first | (subst hk; rfl) | (simp [TD.isAgg] at ha)
    rw [h1]
    have hlt : off < xs.length := by omega
    have e : (xs.drop off).take 1 = [xs[off]] := by
      rw [List.take_one, List.head?_drop, List.getElem?_eq_getElem hlt]; rfl
    simp [e, hlt]

theorem eqGuard_ks : ∀ {n : Nat} {t : TypeId} {ks : List CK}, ksOf T n t = some ks → ∀ d, n ≤ d → P.eqGuardType d t = false := by
  intro n
  induction n with
  | zero => intro t ks h; simp [ksOf] at h
  | succ n ih =>
    intro t ks h d hd
    obtain ⟨m, td, e, ht, hk, hl⟩ := ksOf_size hT h
    obtain rfl : m = n := by omega
    cases d with
    | zero => omega
    | succ d =>
      obtain ⟨de, hde, hu⟩ := hT.under ht
      unfold Program.eqGuardType
      rw [hde]
      obtain ⟨sz, u, z⟩ := td
      cases u <;> cases de <;> simp [uOk] at hu <;> simp [ksU] at hk <;> simp only
      · rename_i m' e' n' e''
        obtain ⟨rfl, rfl⟩ := hu
        split at hk
        · rename_i ks' hks'
          exact ih hks' d (by omega)
        · cases hk
      · rename_i fs fields
        rw [Array.any_eq_false]
        intro i hi
        have key : ∀ (l : List (TypeId × Nat)) (o : Nat) (ks : List CK), ksFs (ksOf T m) o l = some ks → ∀ p ∈ l, P.eqGuardType d p.1 = false := by
          intro l
          induction l with
          | nil => intro o ks _ p hp; simp at hp
          | cons q l ihl =>
            intro o ks h p hp
            obtain ⟨t', off⟩ := q
            simp only [ksFs] at h
            split at h
            · split at h
              · rename_i ks1 h1
                split at h
                · rename_i ks2 h2
                  rcases List.mem_cons.1 hp with rfl | hp
                  · exact ih h1 d (by omega)
                  · exact ihl _ _ h2 p hp
                · cases h
              · cases h
            · cases h
        have := key fs 0 ks hk (fields[i].type, fields[i].offset) (by rw [← hu]; exact List.mem_map.2 ⟨fields[i], Array.mem_toList_iff.2 (Array.getElem_mem hi), rfl⟩)
        simp [this]

omit hT in
theorem run_equalIn_str (w : World) (d : Nat) (t : TypeId) (a b : ByteArray) (h : P.underlying t = some .string) : (Op.equalIn (d + 1) t (.string a) (.string b)).run P w = .ok (a == b) w := by
  simp [Op.equalIn, run_underlying h]
/-- Equality. -/
theorem equalIn_ks : ∀ {n : Nat} {t : TypeId} {ks : List CK} {td : TD}, ksOf T n t = some ks → T t = some td → ∀ {xs ys : List D}, confD ks xs = true → confD ks ys = true → ∀ (d : Nat), n ≤ d → ∀ w : World,
    ∃ r : Bool, (Op.equalIn d t (mkV td.isAgg xs) (mkV td.isAgg ys)).run P w = .ok r w ∧ (r = true ↔ xs = ys) := by
  intro n
  induction n with
  | zero => intro t ks td h; simp [ksOf] at h
  | succ n ih =>
    intro t ks td h ht xs ys hx hy d hd w
    obtain ⟨m, td', e, ht', hk, hl⟩ := ksOf_size hT h
    rw [ht] at ht'; cases ht'
    obtain rfl : m = n := by omega
    cases d with
    | zero => omega
    | succ d =>
      obtain ⟨de, hde, hu⟩ := hT.under ht
      obtain ⟨de', hde', hek⟩ := hT.eqKnown ht
      rw [hde] at hde'; cases hde'
      have hmd : m ≤ d := by omega
      have hxl := conf_length hx
      have hyl := conf_length hy
      obtain ⟨sz, u, z⟩ := td
      cases u <;> cases de <;> simp [uOk] at hu <;> simp only [ksU] at hk <;> (try (cases hk; done))
      · -- arrays
        rename_i m' e' n' e''
        obtain ⟨rfl, rfl⟩ := hu
        split at hk
        · rename_i ks1 hks1
          cases hk
          obtain ⟨m2, tde, _, hte, _, hle⟩ := ksOf_size hT hks1
          obtain ⟨ie, dde, hie, hdde, hisz, _⟩ := hT.info hte
          have hce : P.cellsOf e' = ks1.length := by rw [hle]; simp [Program.cellsOf, hie, hisz]
          simp only [mkV, TD.isAgg, if_true]
          rw [run_equalIn_array w d _ _ hde hie, hce]
          have hxl' : xs.length = m' * ks1.length := by rw [hxl]; simp [List.length_flatten]
          have hyl' : ys.length = m' * ks1.length := by rw [hyl]; simp [List.length_flatten]
          have key : ∀ (q j : Nat), j + q = m' → confD (List.replicate q ks1).flatten (xs.drop (j * ks1.length)) = true → confD (List.replicate q ks1).flatten (ys.drop (j * ks1.length)) = true →
              ∃ r : Bool, (Op.eqItems d e' ks1.length (xs.map D.sval).toArray (ys.map D.sval).toArray (List.range' j q)).run P w = .ok r w ∧ (r = true ↔ xs.drop (j * ks1.length) = ys.drop (j * ks1.length)) := by
            intro q
            induction q with
            | zero =>
              intro j hj _ _
              refine ⟨true, by simp [Op.eqItems], ?_⟩
              obtain rfl : j = m' := by omega
              rw [List.drop_eq_nil_of_le (by omega : xs.length ≤ _), List.drop_eq_nil_of_le (by omega : ys.length ≤ _)]
              simp
            | succ q ihq =>
              intro j hj h1 h2
              simp only [List.replicate_succ, List.flatten_cons] at h1 h2
              obtain ⟨a1, a2⟩ := conf_append h1
              obtain ⟨b1, b2⟩ := conf_append h2
              have hjm : j * ks1.length + ks1.length ≤ m' * ks1.length := by rw [← Nat.succ_mul]; exact Nat.mul_le_mul_right _ (by omega)
              obtain ⟨r, hr, hiff⟩ := ih hks1 hte a1 b1 d hmd w
              rw [List.drop_drop, ← Nat.succ_mul] at a2 b2
              obtain ⟨r', hr', hiff'⟩ := ihq (j + 1) (by omega) a2 b2
              simp only [List.range'_succ, Op.eqItems, Sem.run_bind, part_ks hT hks1 hte (xs := xs) (off := j * ks1.length) (by omega), part_ks hT hks1 hte (xs := ys) (off := j * ks1.length) (by omega), Result.andThen_ok, hr]
              have split : xs.drop (j * ks1.length) = ys.drop (j * ks1.length) ↔ ((xs.drop (j * ks1.length)).take ks1.length = (ys.drop (j * ks1.length)).take ks1.length ∧ xs.drop ((j + 1) * ks1.length) = ys.drop ((j + 1) * ks1.length)) := by
                rw [Nat.succ_mul, ← List.drop_drop, ← List.drop_drop]
                constructor
                · intro e; rw [e]; exact ⟨rfl, rfl⟩
                · rintro ⟨e1, e2⟩
                  rw [← List.take_append_drop ks1.length (xs.drop (j * ks1.length)), ← List.take_append_drop ks1.length (ys.drop (j * ks1.length)), e1, e2]
              rw [split]
              cases r
              · exact ⟨false, by simp, by simp; intro e; exact absurd (hiff.2 e) (by simp)⟩
              · refine ⟨r', by simpa using hr', ?_⟩
                rw [hiff', ← hiff]
                simp
          have := key m' 0 (by omega) (by simpa using hx) (by simpa using hy)
          simpa [List.range_eq_range'] using this
        · cases hk
      · -- structs
        rename_i fs fields
        simp only [eqKnown, Bool.and_eq_true, Bool.not_eq_true', decide_eq_true_eq] at hek
        obtain ⟨_, hst, hnames⟩ := hek
        simp only [mkV, TD.isAgg, if_true]
        have hfo : P.fieldsOf t = fields := by simp [Program.fieldsOf, hde]
        rw [run_equalIn_struct w d t _ _ (by rw [hfo]; exact hde) hst, hfo]
        have key : ∀ (L : List Field) (l : List (TypeId × Nat)) (o : Nat) (ks : List CK), L.map (fun f => (f.type, f.offset)) = l → (∀ f ∈ L, f.name ≠ "_") → ksFs (ksOf T m) o l = some ks →
            confD ks (xs.drop o) = true → confD ks (ys.drop o) = true → (o ≤ xs.length) → (o ≤ ys.length) →
            ∃ r : Bool, (Op.eqFields d (xs.map D.sval).toArray (ys.map D.sval).toArray L).run P w = .ok r w ∧ (r = true ↔ xs.drop o = ys.drop o) := by
          intro L
          induction L with
          | nil =>
            intro l o ks he _ hks h1 h2 _ _
            subst he
            simp only [List.map_nil, ksFs, Option.some.injEq] at hks; subst hks
            refine ⟨true, by simp [Op.eqFields], ?_⟩
            have e1 := conf_length h1
            have e2 := conf_length h2
            rw [List.length_eq_zero_iff.1 e1, List.length_eq_zero_iff.1 e2]
            simp
          | cons f L ihL =>
            intro l o ks he hn hks h1 h2 ho1 ho2
            subst he
            simp only [List.map_cons, ksFs] at hks
            split at hks
            · rename_i hoff
              split at hks
              · rename_i ks1 hks1
                split at hks
                · rename_i ks2 hks2
                  cases hks
                  obtain ⟨a1, a2⟩ := conf_append h1
                  obtain ⟨b1, b2⟩ := conf_append h2
                  obtain ⟨m2, tde, _, hte, _, hle⟩ := ksOf_size hT hks1
                  have hla := conf_length a1
                  have hlb := conf_length b1
                  simp only [List.length_take, List.length_drop] at hla hlb
                  obtain ⟨r, hr, hiff⟩ := ih hks1 hte a1 b1 d hmd w
                  rw [List.drop_drop] at a2 b2
                  obtain ⟨r', hr', hiff'⟩ := ihL _ (o + ks1.length) ks2 rfl (fun f hf => hn f (by simp [hf])) hks2 a2 b2 (by omega) (by omega)
                  simp only [Op.eqFields, hn f (by simp), ne_eq, not_false_eq_true, if_true, Sem.run_bind, hoff, part_ks hT hks1 hte (xs := xs) (off := o) (by omega), part_ks hT hks1 hte (xs := ys) (off := o) (by omega), Result.andThen_ok, hr]
                  have split : xs.drop o = ys.drop o ↔ ((xs.drop o).take ks1.length = (ys.drop o).take ks1.length ∧ xs.drop (o + ks1.length) = ys.drop (o + ks1.length)) := by
                    rw [← List.drop_drop, ← List.drop_drop]
                    constructor
                    · intro e; rw [e]; exact ⟨rfl, rfl⟩
                    · rintro ⟨e1, e2⟩
                      rw [← List.take_append_drop ks1.length (xs.drop o), ← List.take_append_drop ks1.length (ys.drop o), e1, e2]
                  rw [split]
                  cases r
                  · exact ⟨false, by simp, by simp; intro e; exact absurd (hiff.2 e) (by simp)⟩
                  · refine ⟨r', by simpa using hr', ?_⟩
                    rw [hiff', ← hiff]
                    simp
                · cases hks
              · cases hks
            · cases hks
        have := key fields.toList fs 0 ks hu (fun f hf => by
          have := Array.all_eq_true_iff_forall_mem.1 hnames f (Array.mem_toList_iff.1 hf)
          simpa using this) hk (by simpa using hx) (by simpa using hy) (Nat.zero_le _) (Nat.zero_le _)
        simpa using this
      · -- numbers
        rename_i k k'
        subst hu
        cases hk
        match xs, ys, hx, hy with
        | [x], [y], hx, hy =>
          simp only [confD, Bool.and_true] at hx hy
          cases x <;> simp [CK.fits] at hx
          cases y <;> simp [CK.fits] at hy
          subst hx hy
          rename_i a b
          refine ⟨a == b, by simp only [mkV, TD.isAgg, Bool.false_eq_true, if_false, D.sval]; exact run_equalIn_int w d t _ _ a b hde, by simp⟩
      · cases hk
        match xs, ys, hx, hy with
        | [x], [y], hx, hy =>
          simp only [confD, Bool.and_true] at hx hy
          cases x <;> simp [CK.fits] at hx
          cases y <;> simp [CK.fits] at hy
          rename_i a b
          refine ⟨a == b, by simp only [mkV, TD.isAgg, Bool.false_eq_true, if_false, D.sval]; exact run_equalIn_bool w d t a b hde, by simp⟩
      · cases hk
        match xs, ys, hx, hy with
        | [x], [y], hx, hy =>
          simp only [confD, Bool.and_true] at hx hy
          cases x <;> simp [CK.fits] at hx
          cases y <;> simp [CK.fits] at hy
          rename_i a b
          refine ⟨a == b, by simp only [mkV, TD.isAgg, Bool.false_eq_true, if_false, D.sval]; simp [Op.equalIn, Go.underlying, hde], by simpa using MapKept.bytes_beq a b⟩

/-- Keys of maps. -/
theorem checkKey_ks (em : Bool) : ∀ {n : Nat} {t : TypeId} {ks : List CK} {td : TD}, ksOf T n t = some ks → T t = some td → ∀ {xs : List D}, confD ks xs = true → ∀ (d : Nat), n ≤ d → ∀ w : World,
    (Instr.checkKey em d t (mkV td.isAgg xs)).run P w = .ok () w := by
  intro n
  induction n with
  | zero => intro t ks td h; simp [ksOf] at h
  | succ n ih =>
    intro t ks td h ht xs hx d hd w
    obtain ⟨m, td', e, ht', hk, hl⟩ := ksOf_size hT h
    rw [ht] at ht'; cases ht'
    obtain rfl : m = n := by omega
    cases d with
    | zero => omega
    | succ d =>
      obtain ⟨de, hde, hu⟩ := hT.under ht
      obtain ⟨de', hde', hek⟩ := hT.eqKnown ht
      rw [hde] at hde'; cases hde'
      have hmd : m ≤ d := by omega
      have hxl := conf_length hx
      obtain ⟨sz, u, z⟩ := td
      unfold Instr.checkKey
      simp only [Sem.run_bind, run_underlying hde, Result.andThen_ok]
      cases u <;> cases de <;> simp [uOk] at hu <;> simp only [ksU] at hk <;> (try (cases hk; done))
      · rename_i m' e' n' e''
        obtain ⟨rfl, rfl⟩ := hu
        split at hk
        · rename_i ks1 hks1
          cases hk
          obtain ⟨m2, tde, _, hte, _, hle⟩ := ksOf_size hT hks1
          obtain ⟨ie, dde, hie, hdde, hisz, _⟩ := hT.info hte
          have hce : P.cellsOf e' = ks1.length := by rw [hle]; simp [Program.cellsOf, hie, hisz]
          simp only [mkV, TD.isAgg, if_true]
          have hxl' : xs.length = m' * ks1.length := by rw [hxl]; simp [List.length_flatten]
          simp only [Std.Legacy.Range.forIn_eq_forIn_range', Std.Legacy.Range.size, Nat.sub_zero, Nat.add_one_sub_one, Nat.div_one]
          have key : ∀ (q j : Nat), j + q = m' → confD (List.replicate q ks1).flatten (xs.drop (j * ks1.length)) = true →
              (forIn (List.range' j q) PUnit.unit fun i _ => do
                Instr.checkKey em d e' (← part e' (xs.map D.sval).toArray (i * (← sizeOf e')))
                pure (ForInStep.yield PUnit.unit) : Sem PUnit).run P w = .ok () w := by
            intro q
            induction q with
            | zero => intro j _ _; simp
            | succ q ihq =>
              intro j hj h1
              simp only [List.replicate_succ, List.flatten_cons] at h1
              obtain ⟨a1, a2⟩ := conf_append h1
              have hjm : j * ks1.length + ks1.length ≤ m' * ks1.length := by rw [← Nat.succ_mul]; exact Nat.mul_le_mul_right _ (by omega)
              have hr := ih hks1 hte a1 d hmd w
              rw [List.drop_drop, ← Nat.succ_mul] at a2
              have := ihq (j + 1) (by omega) a2
              simp only [List.range'_succ, List.forIn_cons, Sem.run_bind, hT.size hte, ← hle, part_ks hT hks1 hte (xs := xs) (off := j * ks1.length) (by omega), Result.andThen_ok, hr, Sem.run_pure]
              exact this
          have := key m' 0 (by omega) (by simpa using hx)
          simpa using this
        · cases hk
      · rename_i fs fields
        simp only [eqKnown, Bool.and_eq_true, Bool.not_eq_true', decide_eq_true_eq] at hek
        obtain ⟨_, hst, hnames⟩ := hek
        simp only [mkV, TD.isAgg, if_true]
        rw [← Array.forIn_toList]
        have key : ∀ (L : List Field) (l : List (TypeId × Nat)) (o : Nat) (ks : List CK), L.map (fun f => (f.type, f.offset)) = l → (∀ f ∈ L, f.name ≠ "_") → ksFs (ksOf T m) o l = some ks →
            confD ks (xs.drop o) = true → (o ≤ xs.length) →
            (forIn L PUnit.unit fun f _ => (if f.name ≠ "_" then do
                Instr.checkKey em d f.type (← part f.type (xs.map D.sval).toArray f.offset)
                pure (ForInStep.yield PUnit.unit) else pure (ForInStep.yield PUnit.unit)) : Sem PUnit).run P w = .ok () w := by
          intro L
          induction L with
          | nil => intro l o ks he _ hks h1 _; simp
          | cons f L ihL =>
            intro l o ks he hn hks h1 ho1
            subst he
            simp only [List.map_cons, ksFs] at hks
            split at hks
            · rename_i hoff
              split at hks
              · rename_i ks1 hks1
                split at hks
                · rename_i ks2 hks2
                  cases hks
                  obtain ⟨a1, a2⟩ := conf_append h1
                  obtain ⟨m2, tde, _, hte, _, hle⟩ := ksOf_size hT hks1
                  have hla := conf_length a1
                  simp only [List.length_take, List.length_drop] at hla
                  have hr := ih hks1 hte a1 d hmd w
                  rw [List.drop_drop] at a2
                  have := ihL _ (o + ks1.length) ks2 rfl (fun f hf => hn f (by simp [hf])) hks2 a2 (by omega)
                  simp only [List.forIn_cons, Sem.run_bind, hn f (by simp), ne_eq, not_false_eq_true, if_true, hoff, part_ks hT hks1 hte (xs := xs) (off := o) (by omega), Result.andThen_ok, hr, Sem.run_pure]
                  exact this
                · cases hks
              · cases hks
            · cases hks
        have := key fields.toList fs 0 ks hu (fun f hf => by
          have := Array.all_eq_true_iff_forall_mem.1 hnames f (Array.mem_toList_iff.1 hf)
          simpa using this) hk (by simpa using hx) (Nat.zero_le _)
        simpa using this
      all_goals simp
end

/-! ### Entries of maps -/
open Classical in
theorem mget_mput (es : List (D × D)) (k v k' : D) : mget (mput es k v) k' = if k = k' then some v else mget es k' := by
  induction es with
  | nil => simp [mput, mget]
  | cons p r ih =>
    simp only [mput]
    by_cases h : p.1 = k
    · rw [if_pos h]; simp only [mget, h]
      by_cases h2 : k = k'
      · rw [if_pos h2, if_pos h2]
      · rw [if_neg h2, if_neg h2, if_neg h2]
    · rw [if_neg h]; simp only [mget]
      by_cases h2 : p.1 = k'
      · rw [if_pos h2]
        have h3 : ¬ k = k' := fun e => h (h2.trans e.symm)
        rw [if_neg h3, if_pos h2]
      · rw [if_neg h2, ih, if_neg h2]

theorem keyConf_rep {K : Addr → Option Value} {td : TD} {ks : List CK} {d : D} {v : Value} (h : keyConf td.isAgg ks d = true) (hr : RepD K d v) : v = mkV td.isAgg d.cells := by
  simp only [keyConf, Bool.and_eq_true] at h
  obtain ⟨h1, h2⟩ := h
  cases d with
  | agg l =>
    simp only [D.cells] at h1 ⊢
    simp only [mkV, h2, if_true]
    cases hr with | agg _ vs hs hh _ =>
    have := conf_rep (K := K) (vs := vs.toList) h1 (by simpa using hs) (fun i hi => by simpa [List.getD_eq_getElem?_getD, Array.getD_eq_getD_getElem?] using hh i hi)
    congr 1
    apply Array.ext'
    simpa using this
  | _ =>
    simp only [D.cells] at h1 ⊢
    have h2' : td.isAgg = false := by simpa using h2
    simp only [mkV, h2', Bool.false_eq_true, if_false]
    match ks, h1 with
    | [k], h1 =>
      simp only [confD, Bool.and_true] at h1
      exact fits_rep h1 hr
    | [], h1 => simp [confD] at h1
    | _ :: _ :: _, h1 => simp [confD] at h1
theorem keyConf_cells {agg : Bool} {ks : List CK} {a b : D} (ha : keyConf agg ks a = true) (hb : keyConf agg ks b = true) : a.cells = b.cells ↔ a = b := by
  constructor
  · intro e
    simp only [keyConf, Bool.and_eq_true] at ha hb
    cases a <;> cases b <;> simp_all [D.cells]
  · rintro rfl; rfl
theorem keyConf_rep' {K : Addr → Option Value} {td : TD} {ks : List CK} {d : D} (h : keyConf td.isAgg ks d = true) : RepD K d (mkV td.isAgg d.cells) := by
  simp only [keyConf, Bool.and_eq_true] at h
  obtain ⟨h1, h2⟩ := h
  cases d with
  | agg l =>
    simp only [D.cells] at h1 ⊢
    simp only [mkV, h2, if_true]
    refine .agg _ _ (by simp) (fun i hi => (conf_rep' h1 i hi).1) (fun v hv => ?_)
    obtain ⟨i, hi, rfl⟩ := Array.mem_iff_getElem.1 hv
    have hi' : i < l.length := by simpa using hi
    have := (conf_rep' (K := K) h1 i hi').2
    simpa [Array.getD, hi'] using this
  | _ =>
    simp only [D.cells] at h1 ⊢
    have h2' : td.isAgg = false := by simpa using h2
    simp only [mkV, h2', Bool.false_eq_true, if_false]
    match ks, h1 with
    | [k], h1 =>
      simp only [confD, Bool.and_true] at h1
      exact fits_rep' h1
    | [], h1 => simp [confD] at h1
    | _ :: _ :: _, h1 => simp [confD] at h1

section
variable {P : Program} {T : Types} (hT : TOk P T) {n : Nat} {kt : TypeId} {ks : List CK} {td : TD} (hk : ksOf T n kt = some ks) (htd : T kt = some td) (hn : n ≤ 8)
include hT hk htd hn

theorem equal_ks {a b : D} (ha : keyConf td.isAgg ks a = true) (hb : keyConf td.isAgg ks b = true) (w : World) : ∃ r : Bool, (Op.equal kt (mkV td.isAgg a.cells) (mkV td.isAgg b.cells)).run P w = .ok r w ∧ (r = true ↔ a = b) := by
  have ha' := ha
  have hb' := hb
  simp only [keyConf, Bool.and_eq_true] at ha' hb'
  obtain ⟨r, h1, h2⟩ := equalIn_ks hT hk htd ha'.1 hb'.1 10000 (by omega) w
  exact ⟨r, h1, h2.trans (keyConf_cells ha hb)⟩

theorem findAsking_ks {K : Addr → Option Value} {k : D} (hkk : keyConf td.isAgg ks k = true) (w : World) : ∀ {es : List (D × D)} {ms : List MapEntry} (i : Nat), EntRep K td.isAgg ks es ms →
    ((Instr.findAsking kt (mkV td.isAgg k.cells) ms i).run P w = .ok none w ∧ mget es k = none ∧ ∀ v, mput es k v = es ++ [(k, v)]) ∨
    ∃ j e p, (Instr.findAsking kt (mkV td.isAgg k.cells) ms i).run P w = .ok (some (i + j, e.val)) w ∧ ms[j]? = some e ∧ es[j]? = some p ∧ p.1 = k ∧ mget es k = some p.2 ∧ ∀ v, mput es k v = es.set j (k, v) := by
  classical
  intro es ms i h
  induction h generalizing i with
  | nil => exact .inl ⟨by simp [Instr.findAsking], rfl, fun v => rfl⟩
  | @cons p m es ms hp h ih =>
    obtain ⟨h1, h2, h3⟩ := hp
    obtain ⟨r, hr, hiff⟩ := equal_ks hT hk htd hn hkk h1 w
    by_cases he : p.1 = k
    · have : r = true := hiff.2 he.symm
      subst this
      refine .inr ⟨0, m, p, by simp [Instr.findAsking, h2, hr], rfl, rfl, he, by simp [mget, he], fun v => by simp [mput, he]⟩
    · have : r = false := by
        cases r
        · rfl
        · exact absurd (hiff.1 rfl).symm he
      subst this
      rcases ih (i + 1) with ⟨k1, k2, k3⟩ | ⟨j, e, q, k1, k2, k3, k4, k5, k6⟩
      · exact .inl ⟨by simp [Instr.findAsking, h2, hr, k1], by simp [mget, he, k2], fun v => by simp [mput, he, k3]⟩
      · exact .inr ⟨j + 1, e, q, by simp [Instr.findAsking, h2, hr, k1]; omega, by simpa using k2, by simpa using k3, k4, by simp [mget, he, k5], fun v => by simp [mput, he, k6]⟩

theorem findKey_ks {K : Addr → Option Value} {k : D} (hkk : keyConf td.isAgg ks k = true) (w : World) {es : List (D × D)} {ms : List MapEntry} (h : EntRep K td.isAgg ks es ms) :
    ((Instr.findKey kt (mkV td.isAgg k.cells) ms).run P w = .ok none w ∧ mget es k = none ∧ ∀ v, mput es k v = es ++ [(k, v)]) ∨
    ∃ j e p, (Instr.findKey kt (mkV td.isAgg k.cells) ms).run P w = .ok (some (j, e.val)) w ∧ ms[j]? = some e ∧ es[j]? = some p ∧ p.1 = k ∧ mget es k = some p.2 ∧ ∀ v, mput es k v = es.set j (k, v) := by
  have asking := findAsking_ks hT hk htd hn hkk w 0 h
  obtain ⟨de, hde, hu⟩ := hT.under htd
  obtain ⟨m, td', e, ht', hku, hl⟩ := ksOf_size hT hk
  rw [htd] at ht'; cases ht'
  -- what is decided at once is decided alike
  have now : ∀ (ms : List MapEntry) (es : List (D × D)) (i : Nat) (r : Option (Nat × Value)), EntRep K td.isAgg ks es ms → Instr.findNow de (mkV td.isAgg k.cells) ms i = some r → (Instr.findAsking kt (mkV td.isAgg k.cells) ms i).run P w = .ok r w := by
    intro ms es i r h
    induction h generalizing i with
    | nil => intro hf; simp [Instr.findNow] at hf; subst hf; simp [Instr.findAsking]
    | @cons p m0 es ms hp h ih =>
      obtain ⟨h1, h2, h3⟩ := hp
      obtain ⟨r0, hr, hiff⟩ := equal_ks hT hk htd hn hkk h1 w
      intro hf
      simp only [Instr.findNow] at hf
      have hsame : ∀ b, Instr.sameNow de (mkV td.isAgg k.cells) m0.key = some b → r0 = b := by
        intro b hb
        rw [h2] at hb
        have heq : (Op.equal kt (mkV td.isAgg k.cells) (mkV td.isAgg p.1.cells)).run P w = .ok b w := by
          unfold Instr.sameNow at hb
          split at hb
          · rename_i k1 a k2 b' e1 e2
            split at hb
            · rename_i hkk'
              cases hb
              rw [e1, e2, hkk']
              exact run_equalIn_int w 9999 kt _ _ _ _ hde
            · cases hb
          · rename_i a b' e1 e2
            cases hb
            rw [e1, e2]
            exact run_equalIn_str w 9999 kt _ _ hde
          · rename_i a b' e1 e2
            cases hb
            rw [e1, e2]
            exact run_equalIn_bool w 9999 kt _ _ hde
          · cases hb
        rw [hr] at heq
        injection heq
      cases hsn : Instr.sameNow de (mkV td.isAgg k.cells) m0.key with
      | none => rw [hsn] at hf; cases hf
      | some b =>
        have := hsame b hsn
        subst this
        rw [hsn] at hf
        cases r0 with
        | true => simp at hf; subst hf; simp [Instr.findAsking, h2, hr]
        | false => simp at hf; simp [Instr.findAsking, h2, hr, ih (i + 1) hf]
  have hsame : (Instr.findKey kt (mkV td.isAgg k.cells) ms).run P w = (Instr.findAsking kt (mkV td.isAgg k.cells) ms 0).run P w := by
    unfold Instr.findKey
    simp only [Sem.run_bind, run_underlying hde, Result.andThen_ok]
    split
    · rename_i r hr
      rw [now ms es 0 r h hr]; simp
    · rfl
  rw [hsame]
  simpa using asking
end
end Go.Am
