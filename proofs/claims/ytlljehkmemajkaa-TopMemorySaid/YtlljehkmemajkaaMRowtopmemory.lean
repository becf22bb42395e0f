/- Own text. -/
import Derived.Test.YtlljehkmemajkaaMRd
import Derived.Test.YtlljehkmemajkaaML36
import Derived.Test.YtlljehkmemajkaaGenw3
set_option maxRecDepth 100000
namespace Go.Proofs.Ytlljehkmemajkaa
open Go Go.Am Go.ChangeShapes Go.RowKit
theorem topmemory_contract (H:Type) (enc:TypeId×Value->H) (W:World) (base:Nat) (args:Array Value) (ds gs:List (DataW H)) (before:List MemPlace)
  (hval : ∀ (j:Nat) t v,Try.f16.params[j]?=some t->args[j]?=some v->Value.okWide Try.prog W .any base t v)
  (hW:DataW.Whole enc Try.prog Try.f16.params.toList Rows.topMemorySpec.vars false W args.toList ds gs before) :
  Calls Try.prog 16 args W fun e W' => ∃ v,e = .returned v/\Rows.topMemorySpec.post enc Try.prog Try.f16 false true false false W args v W':=by
 have hW':=hW
 obtain ⟨p,q,hA,hV,rfl,hfz,hnd⟩:=hW
 rw [Try.params16] at hA hval
 obtain ⟨v0,vs0,d0,ds0,p0,q0,hargs,rfl,rfl,h0,hA⟩:=trodAll_cons hA
 obtain ⟨v1,vs1,d1,ds1,p1,q1,rfl,rfl,rfl,h1,hA⟩:=trodAll_cons hA
 obtain ⟨rfl,rfl,rfl⟩:=trodAll_nil hA
 obtain rfl:args = #[v0,v1]:=by cases args;simp_all
 obtain ⟨x0,k0,r0⟩:=rdP.arg (pk:=(fun P => .list 1 (eP P))) (fun _=>rfl) (r := .any) (b0:=base) (a5W (hval 0 22 v0 rfl rfl) (by simp [Try.underlying22]) (by simp [Try.underlying22])) h0
 obtain ⟨cs1,rfl⟩ : ∃ cs,v1 = .agg cs:=by
  have h:=hval 1 48 v1 rfl rfl
  unfold Value.okWide at h
  rw [Try.underlying48] at h
  exact ⟨_,h.choose_spec.1⟩
 obtain ⟨x1,k1,r1⟩:=c1v.argAgg h1
 refine row_step laid (fn:=Try.f16) (tb:=4) ?_ rfl Try.underlying4 rfl hW' rfl (c1d rfl (b8F x0 (okP k0).1 (okP k0).2 x1.1 x1.2 k1.1)) rfl ?_
 ·exact of_decide_eq_true (by kernel_rfl)
 ·intro i hi
  match i,hi with
  | 0,_=>exact r0
  | 1,_=>exact r1
  | i+2,hi=>simp at hi <;> omega
theorem topmemory_lifted (os:Os) (started:os.Started) (H:Type) (enc:TypeId×Value->H) :
  ReturnsInHanded {} Try.checked os 16 .any (Rows.topMemorySpec.pre6 enc Try.prog Try.f16 Rows.topMemoryRow.domain false) (Rows.topMemorySpec.post enc Try.prog Try.f16 false true false false):=by
 refine returnsInHanded_of_change (C:=Try.checked) own started (by kernel_rfl) Try.func16
  (ChangeSpec.witness6 (enc:=enc) (C:=Try.checked) false ⟨#[],#[.slice none 0 0,.agg #[.int .u8 0,.int .u8 0]],[]⟩ 16 (by kernel_rfl) (by kernel_rfl) (by kernel_rfl) (by kernel_rfl)) ?_
 intro W base args ds gs before hval hW _ _
 exact topmemory_contract H enc W base args ds gs before hval hW
theorem topmemory_said:Rows.TopMemorySaid :=
 OpenClaim.holds_of_wide 16 Try.f16 rfl rfl rfl rfl rfl rfl rfl ⟨rfl,rfl,rfl,rfl,rfl⟩ rfl rfl rfl rfl rfl (by kernel_rfl) Try.func16 (by kernel_rfl)
  (of_decide_eq_true (by kernel_rfl)) (by unfold Func.isWrapper;first | (rw [if_pos (by decide +kernel)];kernel_rfl) | (rw [if_neg (by decide +kernel)];exact ⟨rfl,rfl⟩))
  (fun os started H enc _=>topmemory_lifted os started H enc)
end Go.Proofs.Ytlljehkmemajkaa
