/- Own text: ZRowproves. -/
import Derived.Test.YtkjeamngjnfpkaaGreatZRd
import Derived.Test.YtkjeamngjnfpkaaGreatZL33
import Derived.Test.YtkjeamngjnfpkaaGreatGenw5
set_option maxRecDepth 100000
namespace Go.Proofs.YtkjeamngjnfpkaaGreat
open Go Go.Am Go.ChangeShapes Go.RowKit
theorem proves_contract (H:Type) (enc:TypeId×Value→H) (W:World) (base:Nat) (args:Array Value) (ds gs:List (DataW H)) (before:List MemPlace)
  (hval : ∀ (j:Nat) t v,Tryz.f7.params[j]?=some t→args[j]?=some v→Value.okWide Tryz.prog W .any base t v)
  (hW:DataW.Whole enc Tryz.prog Tryz.f7.params.toList Rows.codeProvesSpec.vars false W args.toList ds gs before) :
  Calls Tryz.prog 7 args W fun e W' => ∃ v,e = .returned v∧Rows.codeProvesSpec.post enc Tryz.prog Tryz.f7 false true false false W args v W':=by
 have hW':=hW
 obtain ⟨p,q,hA,hV,rfl,hfz,hnd⟩:=hW
 rw [Tryz.params7] at hA hval
 obtain ⟨v0,vs0,d0,ds0,p0,q0,hargs,rfl,rfl,h0,hA⟩:=trodAll_cons hA
 obtain ⟨v1,vs1,d1,ds1,p1,q1,rfl,rfl,rfl,h1,hA⟩:=trodAll_cons hA
 obtain ⟨v2,vs2,d2,ds2,p2,q2,rfl,rfl,rfl,h2,hA⟩:=trodAll_cons hA
 obtain ⟨rfl,rfl,rfl⟩:=trodAll_nil hA
 obtain rfl:args = #[v0,v1,v2]:=by cases args;simp_all
 obtain ⟨cs0,rfl⟩ : ∃ cs,v0 = .agg cs:=by
  have h:=hval 0 27 v0 rfl rfl
  unfold Value.okWide at h
  rw [Tryz.underlying27] at h
  exact ⟨_,h.choose_spec.1⟩
 obtain ⟨x0,k0,r0⟩:=rdCase.argAgg h0
 obtain ⟨x1,k1,r1⟩:=rdBytes.arg (pk:=(fun l => .list 1 (Go.Am.enc (cI .u8) l))) (fun _=>rfl) (r := .any) (b0:=base) (okWide_oneCell (hval 1 54 v1 rfl rfl) (by simp [Tryz.underlying54]) (by simp [Tryz.underlying54])) h1
 obtain ⟨x2,k2,r2⟩:=rdBytes.arg (pk:=(fun l => .list 1 (Go.Am.enc (cI .u8) l))) (fun _=>rfl) (r := .any) (b0:=base) (okWide_oneCell (hval 2 54 v2 rfl rfl) (by simp [Tryz.underlying54]) (by simp [Tryz.underlying54])) h2
 refine row_step laid (fn:=Tryz.f7) (tb:=4) ?_ rfl Tryz.underlying4 rfl hW' rfl (Z7w rfl (Z7_ok x0.1 k0.1 x0.2.1 k0.2.1 x0.2.2 k0.2.2 x1 k1.2 x2 k2.2)) rfl ?_
 ·exact of_decide_eq_true (by kernel_rfl)
 ·intro i hi
  match i,hi with
  | 0,_=>exact r0
  | 1,_=>exact r1
  | 2,_=>exact r2
  | i+3,hi=>simp at hi <;> omega
theorem proves_lifted (os:Os) (started:os.Started) (H:Type) (enc:TypeId×Value→H) :
  ReturnsInHanded {} Tryz.checked os 7 .any (Rows.codeProvesSpec.pre6 enc Tryz.prog Tryz.f7 Rows.codeProvesRow.domain false) (Rows.codeProvesSpec.post enc Tryz.prog Tryz.f7 false true false false):=by
 refine returnsInHanded_of_change (C:=Tryz.checked) own started (by kernel_rfl) Tryz.func7
  (ChangeSpec.witness6 (enc:=enc) (C:=Tryz.checked) false ⟨#[],#[.agg #[.int .i64 0,.int .i64 0,.slice none 0 0,.slice none 0 0,.slice none 0 0,.slice none 0 0],.slice none 0 0,.slice none 0 0],[]⟩ 7 (by kernel_rfl) (by kernel_rfl) (by kernel_rfl) (by kernel_rfl)) ?_
 intro W base args ds gs before hval hW _ _
 exact proves_contract H enc W base args ds gs before hval hW
theorem proves_said:Rows.CodeProvesSaid :=
 OpenClaim.holds_of_wide 7 Tryz.f7 rfl rfl rfl rfl rfl rfl rfl ⟨rfl,rfl,rfl,rfl,rfl⟩ rfl rfl rfl rfl rfl (by kernel_rfl) Tryz.func7 (by kernel_rfl)
  (of_decide_eq_true (by kernel_rfl)) (by unfold Func.isWrapper;first | (rw [if_pos (by decide +kernel)];kernel_rfl) | (rw [if_neg (by decide +kernel)];exact ⟨rfl,rfl⟩))
  (fun os started H enc _=>proves_lifted os started H enc)
end Go.Proofs.YtkjeamngjnfpkaaGreat
