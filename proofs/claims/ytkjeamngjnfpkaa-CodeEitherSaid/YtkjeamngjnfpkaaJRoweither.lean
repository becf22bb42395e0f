/- Own text: JRoweither. -/
import Derived.Test.YtkjeamngjnfpkaaJRd
import Derived.Test.YtkjeamngjnfpkaaJL50
import Derived.Test.YtkjeamngjnfpkaaGenw5
set_option maxRecDepth 100000
namespace Go.Proofs.Ytkjeamngjnfpkaa
open Go Go.Am Go.ChangeShapes Go.RowKit
theorem either_contract (H:Type) (enc:TypeId×Value->H) (W:World) (base:Nat) (args:Array Value) (ds gs:List (DataW H)) (before:List MemPlace)
  (hval : ∀ (j:Nat) t v,Try.f6.params[j]?=some t->args[j]?=some v->Value.okWide Try.prog W .any base t v)
  (hW:DataW.Whole enc Try.prog Try.f6.params.toList Rows.codeEitherSpec.vars false W args.toList ds gs before) :
  Calls Try.prog 6 args W fun e W' => ∃ v,e = .returned v/\Rows.codeEitherSpec.post enc Try.prog Try.f6 false true false false W args v W':=by
 have hW':=hW
 obtain ⟨p,q,hA,hV,rfl,hfz,hnd⟩:=hW
 rw [Try.params6] at hA hval
 obtain ⟨v0,vs0,d0,ds0,p0,q0,hargs,rfl,rfl,h0,hA⟩:=trodAll_cons hA
 obtain ⟨v1,vs1,d1,ds1,p1,q1,rfl,rfl,rfl,h1,hA⟩:=trodAll_cons hA
 obtain ⟨v2,vs2,d2,ds2,p2,q2,rfl,rfl,rfl,h2,hA⟩:=trodAll_cons hA
 obtain ⟨rfl,rfl,rfl⟩:=trodAll_nil hA
 obtain rfl:args = #[v0,v1,v2]:=by cases args;simp_all
 obtain ⟨cs0,rfl⟩ : ∃ cs,v0 = .agg cs:=by
  have h:=hval 0 27 v0 rfl rfl
  unfold Value.okWide at h
  rw [Try.underlying27] at h
  exact ⟨_,h.choose_spec.1⟩
 obtain ⟨x0,k0,r0⟩:=rdCase.argAgg h0
 obtain ⟨cs1,rfl⟩ : ∃ cs,v1 = .agg cs:=by
  have h:=hval 1 56 v1 rfl rfl
  unfold Value.okWide at h
  rw [Try.underlying56] at h
  exact ⟨_,h.choose_spec.1⟩
 obtain ⟨x1,k1,r1⟩:=rdB2.argAgg h1
 obtain ⟨x2,k2,r2⟩:=rdBytes.arg (pk:=(fun l => .list 1 (Go.Am.enc (cI .u8) l))) (fun _=>rfl) (r := .any) (b0:=base) (okWide_oneCell (hval 2 43 v2 rfl rfl) (by simp [Try.underlying43]) (by simp [Try.underlying43])) h2
 refine row_step laid (fn:=Try.f6) (tb:=4) ?_ rfl Try.underlying4 rfl hW' rfl (K6w rfl (K6_ok x0.1 k0.1 x0.2.1 k0.2.1 x0.2.2 k0.2.2 x1.1 x1.2 k1.1 k1.2 x2 k2.2)) rfl ?_
 ·exact of_decide_eq_true (by kernel_rfl)
 ·intro i hi
  match i,hi with
  | 0,_=>exact r0
  | 1,_=>exact r1
  | 2,_=>exact r2
  | i+3,hi=>simp at hi <;> omega
theorem either_lifted (os:Os) (started:os.Started) (H:Type) (enc:TypeId×Value->H) :
  ReturnsInHanded {} Try.checked os 6 .any (Rows.codeEitherSpec.pre6 enc Try.prog Try.f6 Rows.codeEitherRow.domain false) (Rows.codeEitherSpec.post enc Try.prog Try.f6 false true false false):=by
 refine returnsInHanded_of_change (C:=Try.checked) own started (by kernel_rfl) Try.func6
  (ChangeSpec.witness6 (enc:=enc) (C:=Try.checked) false ⟨#[],#[.agg #[.int .i64 0,.int .i64 0,.slice none 0 0,.slice none 0 0,.slice none 0 0,.slice none 0 0],.agg #[.int .u8 0,.int .u8 0],.slice none 0 0],[]⟩ 6 (by kernel_rfl) (by kernel_rfl) (by kernel_rfl) (by kernel_rfl)) ?_
 intro W base args ds gs before hval hW _ _
 exact either_contract H enc W base args ds gs before hval hW
theorem either_said:Rows.CodeEitherSaid :=
 OpenClaim.holds_of_wide 6 Try.f6 rfl rfl rfl rfl rfl rfl rfl ⟨rfl,rfl,rfl,rfl,rfl⟩ rfl rfl rfl rfl rfl (by kernel_rfl) Try.func6 (by kernel_rfl)
  (of_decide_eq_true (by kernel_rfl)) (by unfold Func.isWrapper;first | (rw [if_pos (by decide +kernel)];kernel_rfl) | (rw [if_neg (by decide +kernel)];exact ⟨rfl,rfl⟩))
  (fun os started H enc _=>either_lifted os started H enc)
end Go.Proofs.Ytkjeamngjnfpkaa
