/- Own text: MRowones. -/
import Derived.Test.YtlljehkmemajkaaMRd
import Derived.Test.YtlljehkmemajkaaML34
import Derived.Test.YtlljehkmemajkaaM14w0
set_option maxRecDepth 100000
namespace Go.Proofs.Ytlljehkmemajkaa
open Go Go.Am Go.ChangeShapes Go.RowKit
theorem ones_contract (H:Type) (enc:TypeId×Value->H) (W:World) (base:Nat) (args:Array Value) (ds gs:List (DataW H)) (before:List MemPlace)
  (hval : ∀ (j:Nat) t v,Try.f14.params[j]?=some t->args[j]?=some v->Value.okWide Try.prog W .any base t v)
  (hW:DataW.Whole enc Try.prog Try.f14.params.toList Rows.memoryOnesSpec.vars false W args.toList ds gs before) :
  Calls Try.prog 14 args W fun e W' => ∃ v,e = .returned v/\Rows.memoryOnesSpec.post enc Try.prog Try.f14 false true false false W args v W':=by
 have hW':=hW
 obtain ⟨p,q,hA,hV,rfl,hfz,hnd⟩:=hW
 rw [Try.params14] at hA hval
 obtain ⟨v0,vs0,d0,ds0,p0,q0,hargs,rfl,rfl,h0,hA⟩:=trodAll_cons hA
 obtain ⟨rfl,rfl,rfl⟩:=trodAll_nil hA
 obtain rfl:args = #[v0]:=by cases args;simp_all
 obtain ⟨x0,k0,r0⟩:=rdP.arg (pk:=(fun P => .list 1 (eP P))) (fun _=>rfl) (r := .any) (b0:=base) (okWide_oneCell (hval 0 22 v0 rfl rfl) (by simp [Try.underlying22]) (by simp [Try.underlying22])) h0
 refine row_step laid (fn:=Try.f14) (tb:=4) ?_ rfl Try.underlying4 rfl hW' rfl (M14w rfl (M14_ok x0 (okP k0).1 (okP k0).2)) rfl ?_
 ·exact of_decide_eq_true (by kernel_rfl)
 ·intro i hi
  match i,hi with
  | 0,_=>exact r0
  | i+1,hi=>simp at hi <;> omega
theorem ones_lifted (os:Os) (started:os.Started) (H:Type) (enc:TypeId×Value->H) :
  ReturnsInHanded {} Try.checked os 14 .any (Rows.memoryOnesSpec.pre6 enc Try.prog Try.f14 Rows.memoryOnesRow.domain false) (Rows.memoryOnesSpec.post enc Try.prog Try.f14 false true false false):=by
 refine returnsInHanded_of_change (C:=Try.checked) own started (by kernel_rfl) Try.func14
  (ChangeSpec.witness6 (enc:=enc) (C:=Try.checked) false ⟨#[],#[.slice none 0 0],[]⟩ 14 (by kernel_rfl) (by kernel_rfl) (by kernel_rfl) (by kernel_rfl)) ?_
 intro W base args ds gs before hval hW _ _
 exact ones_contract H enc W base args ds gs before hval hW
theorem ones_said:Rows.MemoryOnesSaid :=
 OpenClaim.holds_of_wide 14 Try.f14 rfl rfl rfl rfl rfl rfl rfl ⟨rfl,rfl,rfl,rfl,rfl⟩ rfl rfl rfl rfl rfl (by kernel_rfl) Try.func14 (by kernel_rfl)
  (of_decide_eq_true (by kernel_rfl)) (by unfold Func.isWrapper;first | (rw [if_pos (by decide +kernel)];kernel_rfl) | (rw [if_neg (by decide +kernel)];exact ⟨rfl,rfl⟩))
  (fun os started H enc _=>ones_lifted os started H enc)
end Go.Proofs.Ytlljehkmemajkaa
