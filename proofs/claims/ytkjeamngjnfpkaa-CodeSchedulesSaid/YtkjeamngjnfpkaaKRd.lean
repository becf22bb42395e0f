/- Own text: KRd. -/
import Derived.Test.YtkjeamngjnfpkaaAmArgs
import Derived.Test.YtkjeamngjnfpkaaKB
import Derived.Test.YtkjeamngjnfpkaaK1T
import Derived.Test.YtkjeamngjnfpkaaRows
set_option maxRecDepth 100000
namespace Go.Proofs.Ytkjeamngjnfpkaa
open Go Go.Am Go.ChangeShapes Go.RowKit
theorem own:ownKnob Try.prog.godebug=none:=by kernel_rfl
theorem laid:laidOutB Try.prog=true:=by kernel_rfl
theorem cells3:Program.cellsOf Try.prog 3=1:=by kernel_rfl
theorem cells22:Program.cellsOf Try.prog 22=1:=by kernel_rfl
theorem cells24:Program.cellsOf Try.prog 24=4:=by kernel_rfl
theorem cells25:Program.cellsOf Try.prog 25=1:=by kernel_rfl
theorem cells27:Program.cellsOf Try.prog 27=6:=by kernel_rfl
theorem cells28:Program.cellsOf Try.prog 28=1:=by kernel_rfl
theorem cells71:Program.cellsOf Try.prog 71=1:=by kernel_rfl
theorem cells74:Program.cellsOf Try.prog 74=4:=by kernel_rfl
def I64 (n:Int):Prop := -9223372036854775808<=n/\n<9223372036854775808
theorem rdI:Rd Try.prog 3 (fun n=>[D.int .i64 n]) I64 :=
 (Rd.int Try.underlying3).map id (fun _ _=>rfl) (fun n h=>by have:=bounds_i64 h;simp only [id,I64];omega)
theorem rdInts:Rd Try.prog 28 (fun l:List Int=>[.list 1 (eInts l)]) (fun l=>l.length<Lg /\ ∀ n∈l,I64 n):=by
 refine (Rd.slice Try.underlying28 rdI (.int .i64) (fun _ _=>rfl) (by rw [cells3];decide)).map id (fun l _ => ?_) (fun l h=>⟨by have:=h.1;simp only [maxLen] at this;exact (by omega:l.length<9223372036854775808),h.2⟩)
 rw [cells3];rfl
theorem rdTab:Rd Try.prog 22 (fun t:Tab=>[.list 1 (eTab t)]) TabOk:=by
 refine (Rd.slice Try.underlying22 rdInts (fun l => .list 1 (eInts l)) (fun _ _=>rfl) (by rw [cells28];decide)).map id (fun l _ => ?_) (fun l h=>⟨by have:=h.1;simp only [maxLen] at this;exact (by omega:l.length<9223372036854775808),fun r hr=>(h.2 r hr).1⟩)
 rw [cells28]
 show [D.list 1 (eTab l)]=[D.list 1 (l.map fun r => .list 1 (eInts r))]
 simp [eTab,enc,cL]
theorem rdSpec:Rd Try.prog 24 (fun s:Go.Am.Spec=>[.int .i64 s.1,.int .i64 s.2.1,.list 1 (eTab s.2.2.1),.list 1 (eTab s.2.2.2)]) (fun s=>TabOk s.2.2.1/\TabOk s.2.2.2):=by
 refine (Rd.struct Try.underlying24 (ts:=[3,3,22,22]) (.cons rdI (.cons rdI (.cons rdTab (.cons rdTab .nil)))) rfl ?_ ?_).map (fun p=>(p.1,p.2.1,p.2.2.1,p.2.2.2.1)) (fun _ _=>rfl) (fun _ h=>⟨h.2.2.1,h.2.2.2.1⟩)
 ·intro i f hf
  match i,hf with
  | 0,hf=>cases hf;rfl
  | 1,hf=>cases hf;simp [cells3]
  | 2,hf=>cases hf;simp [cells3]
  | 3,hf=>cases hf;simp [cells3,cells22]
  | i+4,hf=>simp at hf
 ·simp [cells24,cells3,cells22]
theorem rdLine:Rd Try.prog 74 (fun c:Ln4=>[.int .i64 c.1,.int .i64 c.2.1,.int .i64 c.2.2.1,.int .i64 c.2.2.2]) (fun c=>I64 c.1):=by
 refine (Rd.struct Try.underlying74 (ts:=[3,3,3,3]) (.cons rdI (.cons rdI (.cons rdI (.cons rdI .nil)))) rfl ?_ ?_).map (fun p=>(p.1,p.2.1,p.2.2.1,p.2.2.2.1)) (fun _ _=>rfl) (fun _ h=>h.1)
 ·intro i f hf
  match i,hf with
  | 0,hf=>cases hf;rfl
  | 1,hf=>cases hf;simp [cells3]
  | 2,hf=>cases hf;simp [cells3]
  | 3,hf=>cases hf;simp [cells3]
  | i+4,hf=>simp at hf
 ·simp [cells74,cells3]
theorem rdLines:Rd Try.prog 71 (fun l:List Ln4=>[.list 4 (eLns l)]) (fun l=>l.length<Lg):=by
 refine (Rd.slice Try.underlying71 rdLine (fun c => .agg [.int .i64 c.1,.int .i64 c.2.1,.int .i64 c.2.2.1,.int .i64 c.2.2.2]) (fun _ _=>rfl) (by rw [cells74];decide)).map id (fun l _ => ?_) (fun l h=>by have:=h.1;simp only [maxLen] at this;exact (by omega:l.length<9223372036854775808))
 rw [cells74]
 simp [enc,cG,lc,l1,cI]
theorem rdCode:Rd Try.prog 25 (fun c:Go.Am.Code=>[.list 1 (eCode c)]) CodeOk:=by
 refine (Rd.slice Try.underlying25 rdLines (fun l => .list 4 (eLns l)) (fun _ _=>rfl) (by rw [cells71];decide)).map id (fun l _ => ?_) (fun l h=>⟨by have:=h.1;simp only [maxLen] at this;exact (by omega:l.length<9223372036854775808),fun r hr=>h.2 r hr⟩)
 rw [cells71]
 show [D.list 1 (eCode l)]=[D.list 1 (l.map fun r => .list 4 (eLns r))]
 simp [eCode,enc,cL]
abbrev CaseX:=Go.Am.Spec×Go.Am.Code×Tab
theorem rdCase:Rd Try.prog 27 (fun x:CaseX=>[.int .i64 x.1.1,.int .i64 x.1.2.1,.list 1 (eTab x.1.2.2.1),.list 1 (eTab x.1.2.2.2),.list 1 (eCode x.2.1),.list 1 (eTab x.2.2)]) (fun x=>(TabOk x.1.2.2.1/\TabOk x.1.2.2.2)/\CodeOk x.2.1/\TabOk x.2.2):=by
 refine (Rd.struct Try.underlying27 (ts:=[24,25,22]) (.cons rdSpec (.cons rdCode (.cons rdTab .nil))) rfl ?_ ?_).map (fun p=>(p.1,p.2.1,p.2.2.1)) (fun _ _=>rfl) (fun _ h=>⟨h.1,h.2.1,h.2.2.1⟩)
 ·intro i f hf
  match i,hf with
  | 0,hf=>cases hf;rfl
  | 1,hf=>cases hf;simp [cells24]
  | 2,hf=>cases hf;simp [cells24,cells25]
  | i+3,hf=>simp at hf
 ·simp [cells27,cells24,cells25,cells22]
end Go.Proofs.Ytkjeamngjnfpkaa
