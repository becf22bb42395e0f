/- Own text. -/
import Derived.Test.YtlljehkmemajkaaMRd
import Derived.Test.YtlljehkmemajkaaML37
import Derived.Test.YtlljehkmemajkaaGenw3
set_option maxRecDepth 100000
namespace Go.Proofs.Ytlljehkmemajkaa
open Go Go.Am Go.ChangeShapes Go.RowKit
theorem bares_contract (H:Type) (enc:TypeId×Value->H) (W:World) (base:Nat) (args:Array Value) (ds gs:List (DataW H)) (before:List MemPlace)
  (hval : ∀ (j:Nat) t v,Try.f11.params[j]?=some t->args[j]?=some v->Value.okWide Try.prog W .any base t v)
  (hW:DataW.Whole enc Try.prog Try.f11.params.toList Rows.memoryBaresSpec.vars false W args.toList ds gs before) :
  Calls Try.prog 11 args W fun e W' => ∃ v,e = .returned v/\Rows.memoryBaresSpec.post enc Try.prog Try.f11 false true false false W args v W':=by
 have hW':=hW
 obtain ⟨p,q,hA,hV,rfl,hfz,hnd⟩:=hW
 rw [Try.params11] at hA hval
 obtain ⟨v0,vs0,d0,ds0,p0,q0,hargs,rfl,rfl,h0,hA⟩:=trodAll_cons hA
 obtain ⟨rfl,rfl,rfl⟩:=trodAll_nil hA
 obtain rfl:args = #[v0]:=by cases args;simp_all
 obtain ⟨x0,k0,r0⟩:=rdP.arg (pk:=(fun P => .list 1 (eP P))) (fun _=>rfl) (r := .any) (b0:=base) (a5R (hval 0 22 v0 rfl rfl) (by simp [Try.underlying22]) (by simp [Try.underlying22])) h0
 refine row_step laid (fn:=Try.f11) (tb:=4) ?_ rfl Try.underlying4 rfl hW' rfl (c0I rfl (b8o x0 (okP k0).1 (okP k0).2)) rfl ?_
 ·exact of_decide_eq_true (by kernel_rfl)
 ·intro i hi
  match i,hi with
  | 0,_=>exact r0
  | i+1,hi=>simp at hi <;> omega
theorem bares_lifted (os:Os) (started:os.Started) (H:Type) (enc:TypeId×Value->H) :
  ReturnsInHanded {} Try.checked os 11 .any (Rows.memoryBaresSpec.pre6 enc Try.prog Try.f11 Rows.memoryBaresRow.domain false) (Rows.memoryBaresSpec.post enc Try.prog Try.f11 false true false false):=by
 refine returnsInHanded_of_change (C:=Try.checked) own started (by kernel_rfl) Try.func11
  (ChangeSpec.witness6 (enc:=enc) (C:=Try.checked) false ⟨#[],#[.slice none 0 0],[]⟩ 11 (by kernel_rfl) (by kernel_rfl) (by kernel_rfl) (by kernel_rfl)) ?_
 intro W base args ds gs before hval hW _ _
 exact bares_contract H enc W base args ds gs before hval hW
theorem bares_said:Rows.MemoryBaresSaid :=
 OpenClaim.holds_of_wide 11 Try.f11 rfl rfl rfl rfl rfl rfl rfl ⟨rfl,rfl,rfl,rfl,rfl⟩ rfl rfl rfl rfl rfl (by kernel_rfl) Try.func11 (by kernel_rfl)
  (of_decide_eq_true (by kernel_rfl)) (by unfold Func.isWrapper;first | (rw [if_pos (by decide +kernel)];kernel_rfl) | (rw [if_neg (by decide +kernel)];exact ⟨rfl,rfl⟩))
  (fun os started H enc _=>bares_lifted os started H enc)
end Go.Proofs.Ytlljehkmemajkaa
