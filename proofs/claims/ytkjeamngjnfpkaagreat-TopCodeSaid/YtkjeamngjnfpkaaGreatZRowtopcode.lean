/- Own text. -/
import Derived.Test.YtkjeamngjnfpkaaGreatZRd
import Derived.Test.YtkjeamngjnfpkaaGreatZL50
import Derived.Test.YtkjeamngjnfpkaaGreatGenw8
set_option maxRecDepth 100000
namespace Go.Proofs.YtkjeamngjnfpkaaGreat
open Go Go.Am Go.ChangeShapes Go.RowKit
theorem topcode_contract (H:Type) (enc:TypeId×Value->H) (W:World) (base:Nat) (args:Array Value) (ds gs:List (DataW H)) (before:List MemPlace)
  (hval : ∀ (j:Nat) t v,Tryz.f3.params[j]?=some t->args[j]?=some v->Value.okWide Tryz.prog W .any base t v)
  (hW:DataW.Whole enc Tryz.prog Tryz.f3.params.toList Rows.topCodeSpec.vars false W args.toList ds gs before) :
  Calls Tryz.prog 3 args W fun e W' => ∃ v,e = .returned v/\Rows.topCodeSpec.post enc Tryz.prog Tryz.f3 false true false false W args v W':=by
 have hW':=hW
 obtain ⟨p,q,hA,hV,rfl,hfz,hnd⟩:=hW
 rw [Tryz.params3] at hA hval
 obtain ⟨v0,vs0,d0,ds0,p0,q0,hargs,rfl,rfl,h0,hA⟩:=trodAll_cons hA
 obtain ⟨v1,vs1,d1,ds1,p1,q1,rfl,rfl,rfl,h1,hA⟩:=trodAll_cons hA
 obtain ⟨v2,vs2,d2,ds2,p2,q2,rfl,rfl,rfl,h2,hA⟩:=trodAll_cons hA
 obtain ⟨rfl,rfl,rfl⟩:=trodAll_nil hA
 obtain rfl:args = #[v0,v1,v2]:=by cases args;simp_all
 obtain ⟨cs0,rfl⟩ : ∃ cs,v0 = .agg cs:=by
  have h:=hval 0 27 v0 rfl rfl
  unfold Value.okWide at h
  rw [Tryz.underlying27] at h
  exact ⟨_,h.choose_spec.1⟩
 obtain ⟨x0,k0,r0⟩:=c2l.argAgg h0
 obtain ⟨cs1,rfl⟩ : ∃ cs,v1 = .agg cs:=by
  have h:=hval 1 28 v1 rfl rfl
  unfold Value.okWide at h
  rw [Tryz.underlying28] at h
  exact ⟨_,h.choose_spec.1⟩
 obtain ⟨x1,k1,r1⟩:=c6m.argAgg h1
 obtain ⟨x2,k2,r2⟩:=rdB.arg (pk:=(.int .u8)) (fun _=>rfl) (r := .any) (b0:=base) (a7y (hval 2 5 v2 rfl rfl) (by simp [Tryz.underlying5]) (by simp [Tryz.underlying5])) h2
 refine row_step laid (fn:=Tryz.f3) (tb:=4) ?_ rfl Tryz.underlying4 rfl hW' rfl (Z3w rfl (c4P x0.1 k0.1 x0.2.1 k0.2.1 x0.2.2 k0.2.2 x1.1 x1.2.1 x1.2.2.1 x1.2.2.2 (by intro n hn;simp only [List.mem_cons,List.not_mem_nil,or_false] at hn;rcases hn with rfl | rfl | rfl | rfl;exact k1.1;exact k1.2.1;exact k1.2.2.1;exact k1.2.2.2) x2 k2)) rfl ?_
 ·exact of_decide_eq_true (by kernel_rfl)
 ·intro i hi
  match i,hi with
  | 0,_=>exact r0
  | 1,_=>exact r1
  | 2,_=>exact r2
  | i+3,hi=>simp at hi <;> omega
theorem topcode_lifted (os:Os) (started:os.Started) (H:Type) (enc:TypeId×Value->H) :
  ReturnsInHanded {} Tryz.checked os 3 .any (Rows.topCodeSpec.pre6 enc Tryz.prog Tryz.f3 Rows.topCodeRow.domain false) (Rows.topCodeSpec.post enc Tryz.prog Tryz.f3 false true false false):=by
 refine returnsInHanded_of_change (C:=Tryz.checked) own started (by kernel_rfl) Tryz.func3
  (ChangeSpec.witness6 (enc:=enc) (C:=Tryz.checked) false ⟨#[],#[.agg #[.int .i64 0,.int .i64 0,.slice none 0 0,.slice none 0 0,.slice none 0 0,.slice none 0 0],.agg #[.int .u8 0,.int .u8 0,.int .u8 0,.int .u8 0],.int .u8 0],[]⟩ 3 (by kernel_rfl) (by kernel_rfl) (by kernel_rfl) (by kernel_rfl)) ?_
 intro W base args ds gs before hval hW _ _
 exact topcode_contract H enc W base args ds gs before hval hW
theorem topcode_said:Rows.TopCodeSaid :=
 OpenClaim.holds_of_wide 3 Tryz.f3 rfl rfl rfl rfl rfl rfl rfl ⟨rfl,rfl,rfl,rfl,rfl⟩ rfl rfl rfl rfl rfl (by kernel_rfl) Tryz.func3 (by kernel_rfl)
  (of_decide_eq_true (by kernel_rfl)) (by unfold Func.isWrapper;first | (rw [if_pos (by decide +kernel)];kernel_rfl) | (rw [if_neg (by decide +kernel)];exact ⟨rfl,rfl⟩))
  (fun os started H enc _=>topcode_lifted os started H enc)
end Go.Proofs.YtkjeamngjnfpkaaGreat
