import Derived.Test.YtkjeamngjnfpkaaGreatAmArgs
import Derived.Test.YtkjeamngjnfpkaaGreatZB
import Derived.Test.YtkjeamngjnfpkaaGreatZ1T
import Derived.Test.YtkjeamngjnfpkaaGreatRows
set_option maxRecDepth 100000
namespace Go.Proofs.YtkjeamngjnfpkaaGreat
open Go Go.Am Go.ChangeShapes Go.RowKit
theorem own:ownKnob Tryz.prog.godebug=none:=by kernel_rfl
theorem laid:laidOutB Tryz.prog=true:=by kernel_rfl
theorem cells3:Program.cellsOf Tryz.prog 3=1:=by kernel_rfl
theorem cells5:Program.cellsOf Tryz.prog 5=1:=by kernel_rfl
theorem b0V:Program.cellsOf Tryz.prog 22=1:=by kernel_rfl
theorem a8N:Program.cellsOf Tryz.prog 24=4:=by kernel_rfl
theorem b5f:Program.cellsOf Tryz.prog 25=1:=by kernel_rfl
theorem b9k:Program.cellsOf Tryz.prog 27=6:=by kernel_rfl
theorem b5g:Program.cellsOf Tryz.prog 34=1:=by kernel_rfl
theorem b5h:Program.cellsOf Tryz.prog 45=1:=by kernel_rfl
theorem b0W:Program.cellsOf Tryz.prog 63=4:=by kernel_rfl
def I64 (n:Int):Prop := -9223372036854775808<=n/\n<9223372036854775808
def U8 (n:Int):Prop:=0<=n/\n<256
theorem rdI:Rd Tryz.prog 3 (fun n=>[D.int .i64 n]) I64 :=
 (Rd.int Tryz.underlying3).map id (fun _ _=>rfl) (fun n h=>by have:=bounds_i64 h;simp only [id,I64];omega)
theorem rdB:Rd Tryz.prog 5 (fun n=>[D.int .u8 n]) U8 :=
 (Rd.int Tryz.underlying5).map id (fun _ _=>rfl) (fun n h=>by have:=bounds_u8 h;simp only [id,U8];omega)
theorem c2h:Rd Tryz.prog 34 (fun l:List Int=>[.list 1 (a0d l)]) (fun l=>l.length<Lg /\ ∀ n∈l,I64 n):=by
 refine (Rd.slice Tryz.underlying34 rdI (.int .i64) (fun _ _=>rfl) (by rw [cells3];decide)).map id (fun l _ => ?_) (fun l h=>⟨by have:=h.1;simp only [maxLen] at this;exact (by omega:l.length<9223372036854775808),h.2⟩);rw [cells3];rfl
theorem b9l:Rd Tryz.prog 22 (fun t:Tab=>[.list 1 (a0r t)]) a0C:=by
 refine (Rd.slice Tryz.underlying22 c2h (fun l => .list 1 (a0d l)) (fun _ _=>rfl) (by rw [b5g];decide)).map id (fun l _ => ?_) (fun l h=>⟨by have:=h.1;simp only [maxLen] at this;exact (by omega:l.length<9223372036854775808),fun r hr=>(h.2 r hr).1⟩);rw [b5g];show [D.list 1 (a0r l)]=[D.list 1 (l.map fun r => .list 1 (a0d r))];simp [a0r,enc,cL]
theorem c2i:Rd Tryz.prog 24 (fun s:Go.Am.Spec=>[.int .i64 s.1,.int .i64 s.2.1,.list 1 (a0r s.2.2.1),.list 1 (a0r s.2.2.2)]) (fun s=>a0C s.2.2.1/\a0C s.2.2.2):=by
 refine (Rd.struct Tryz.underlying24 (ts:=[3,3,22,22]) (.cons rdI (.cons rdI (.cons b9l (.cons b9l .nil)))) rfl ?_ ?_).map (fun p=>(p.1,p.2.1,p.2.2.1,p.2.2.2.1)) (fun _ _=>rfl) (fun _ h=>⟨h.2.2.1,h.2.2.2.1⟩)
 ·intro i f hf
  match i,hf with
  | 0,hf=>cases hf;rfl
  | 1,hf=>cases hf;simp [cells3]
  | 2,hf=>cases hf;simp [cells3]
  | 3,hf=>cases hf;simp [cells3,b0V]
  | i+4,hf=>simp at hf
 simp [a8N,cells3,b0V]
theorem c2j:Rd Tryz.prog 63 (fun c:Ln4=>[.int .i64 c.1,.int .i64 c.2.1,.int .i64 c.2.2.1,.int .i64 c.2.2.2]) (fun c=>I64 c.1):=by
 refine (Rd.struct Tryz.underlying63 (ts:=[3,3,3,3]) (.cons rdI (.cons rdI (.cons rdI (.cons rdI .nil)))) rfl ?_ ?_).map (fun p=>(p.1,p.2.1,p.2.2.1,p.2.2.2.1)) (fun _ _=>rfl) (fun _ h=>h.1)
 ·intro i f hf
  match i,hf with
  | 0,hf=>cases hf;rfl
  | 1,hf=>cases hf;simp [cells3]
  | 2,hf=>cases hf;simp [cells3]
  | 3,hf=>cases hf;simp [cells3]
  | i+4,hf=>simp at hf
 simp [b0W,cells3]
theorem b9m:Rd Tryz.prog 45 (fun l:List Ln4=>[.list 4 (b0c l)]) (fun l=>l.length<Lg):=by
 refine (Rd.slice Tryz.underlying45 c2j (fun c => .agg [.int .i64 c.1,.int .i64 c.2.1,.int .i64 c.2.2.1,.int .i64 c.2.2.2]) (fun _ _=>rfl) (by rw [b0W];decide)).map id (fun l _ => ?_) (fun l h=>by have:=h.1;simp only [maxLen] at this;exact (by omega:l.length<9223372036854775808));rw [b0W];simp [enc,cG,lc,l1,cI]
theorem c2k:Rd Tryz.prog 25 (fun c:Go.Am.Code=>[.list 1 (a0o c)]) a1q:=by
 refine (Rd.slice Tryz.underlying25 b9m (fun l => .list 4 (b0c l)) (fun _ _=>rfl) (by rw [b5h];decide)).map id (fun l _ => ?_) (fun l h=>⟨by have:=h.1;simp only [maxLen] at this;exact (by omega:l.length<9223372036854775808),fun r hr=>h.2 r hr⟩);rw [b5h];show [D.list 1 (a0o l)]=[D.list 1 (l.map fun r => .list 4 (b0c r))];simp [a0o,enc,cL]
abbrev c4R:=Go.Am.Spec×Go.Am.Code×Tab
theorem c2l:Rd Tryz.prog 27 (fun x:c4R=>[.int .i64 x.1.1,.int .i64 x.1.2.1,.list 1 (a0r x.1.2.2.1),.list 1 (a0r x.1.2.2.2),.list 1 (a0o x.2.1),.list 1 (a0r x.2.2)]) (fun x=>(a0C x.1.2.2.1/\a0C x.1.2.2.2)/\a1q x.2.1/\a0C x.2.2):=by
 refine (Rd.struct Tryz.underlying27 (ts:=[24,25,22]) (.cons c2i (.cons c2k (.cons b9l .nil))) rfl ?_ ?_).map (fun p=>(p.1,p.2.1,p.2.2.1)) (fun _ _=>rfl) (fun _ h=>⟨h.1,h.2.1,h.2.2.1⟩)
 ·intro i f hf
  match i,hf with
  | 0,hf=>cases hf;rfl
  | 1,hf=>cases hf;simp [a8N]
  | 2,hf=>cases hf;simp [a8N,b5f]
  | i+3,hf=>simp at hf
 simp [b9k,a8N,b5f,b0V]
theorem b9n:Program.cellsOf Tryz.prog 28=4:=by kernel_rfl
abbrev B4:=Int×Int×Int×Int
theorem c6m:Rd Tryz.prog 28 (fun a:B4=>[.int .u8 a.1,.int .u8 a.2.1,.int .u8 a.2.2.1,.int .u8 a.2.2.2]) (fun a=>U8 a.1/\U8 a.2.1/\U8 a.2.2.1/\U8 a.2.2.2):=by
 refine (Rd.array Tryz.underlying28 rdB (by rw [b9n,cells5])).map (fun l=>(l.getD 0 0,l.getD 1 0,l.getD 2 0,l.getD 3 0)) ?_ ?_
 ·rintro l ⟨hl,_⟩
  match l,hl with
  | [a,b,c,d],_=>rfl
 rintro l ⟨hl,h⟩
 match l,hl with
 | [a,b,c,d],_=>exact ⟨h a (by simp),h b (by simp),h c (by simp),h d (by simp)⟩
end Go.Proofs.YtkjeamngjnfpkaaGreat
