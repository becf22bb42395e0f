/- Own text: KB. -/
import Derived.Test.YtkjeamngjnfpkaaGenp1
import Derived.Test.YtkjeamngjnfpkaaAmLaw
set_option maxRecDepth 100000
set_option linter.unusedVariables false
set_option linter.unusedSimpArgs false
namespace Go.Am
open Go
abbrev Call:=Int×Int×Int×Int×Int×Int
abbrev cCall:Cod Call:=cG (lc (cI .i64) (lc (cI .i64) (lc (cI .i64) (lc (cI .i64) (lc (cI .i64) (l1 (cI .i64)))))))
abbrev cSpec:Cod (Int×Int×List D×List D):=cG (lc (cI .i64) (lc (cI .i64) (lc (cL 1) (l1 (cL 1)))))
abbrev Tab:=List (List Int)
def eTab (t:Tab):List D:=enc (cL 1) (t.map (enc (cI .i64)))
abbrev Spec:=Int×Int×Tab×Tab
def eSpec (s:Spec):Int×Int×List D×List D:=(s.1,s.2.1,eTab s.2.2.1,eTab s.2.2.2)
abbrev eSpecs (l:List Spec):List D:=enc cSpec (l.map eSpec)
abbrev eCalls (h:List Call):List D:=enc cCall h
abbrev eInts (l:List Int):List D:=enc (cI .i64) l
abbrev Lg:Nat:=9223372036854775808
def TabOk (t:Tab):Prop:=t.length<Lg /\ ∀ r∈t,r.length<Lg
def SpecsOk (l:List Spec):Prop:=l.length<Lg /\ ∀ s∈l,TabOk s.2.2.1/\TabOk s.2.2.2
namespace Call
abbrev th (c:Call):Int:=c.1
abbrev ob (c:Call):Int:=c.2.1
abbrev op (c:Call):Int:=c.2.2.1
abbrev sa (c:Call):Int:=c.2.2.2.1
abbrev fr (c:Call):Int:=c.2.2.2.2.1
abbrev to (c:Call):Int:=c.2.2.2.2.2
end Call
def btw (a b c:Int):Bool:=decide (a<=b)&&decide (b<=c)
@[simp] theorem btw_true (a b c:Int):btw a b c=true↔a<=b/\b<=c:=by simp [btw]
@[simp] theorem length_eTab (t:Tab):(eTab t).length=t.length:=by simp [eTab]
theorem len_eTab (t:Tab):Ar.std.len (eTab t)=(t.length:Int):=by simp
theorem gt_eTab {t:Tab} {i:Nat} {r:List Int} (h:t[i]?=some r):gt Ar.std (cL 1) (eTab t) (i:Int)=some (eInts r):=gt_enc_map h
theorem gt_eTabI {t:Tab} {i:Int} {r:List Int} (h0:0<=i) (h:t[i.toNat]?=some r):gt Ar.std (cL 1) (eTab t) i=some (eInts r):=gt_enc_mapI h0 h
theorem gt_eSpecs {l:List Spec} {i:Nat} {s:Spec} (h:l[i]?=some s):gt Ar.std cSpec (eSpecs l) (i:Int)=some (s.1,s.2.1,eTab s.2.2.1,eTab s.2.2.2):=gt_enc_map h
theorem len_eSpecs (l:List Spec):Ar.std.len (eSpecs l)=(l.length:Int):=by simp [eSpecs]
theorem ltC {i n:Nat} (h:i<n):decide ((i:Int)<(n:Int))=true:=by simp;omega
abbrev Ln4:=Int×Int×Int×Int
abbrev cLn:Cod Ln4:=cG (lc (cI .i64) (lc (cI .i64) (lc (cI .i64) (l1 (cI .i64)))))
abbrev eLns (l:List Ln4):List D:=enc cLn l
abbrev Code:=List (List Ln4)
def eCode (c:Code):List D:=enc (cL 4) (c.map eLns)
@[simp] theorem length_eCode (c:Code):(eCode c).length=c.length:=by simp [eCode]
theorem len_eCode (c:Code):Ar.std.len (eCode c)=(c.length:Int):=by simp
theorem gt_eCode {c:Code} {i:Nat} {r:List Ln4} (h:c[i]?=some r):gt Ar.std (cL 4) (eCode c) (i:Int)=some (eLns r):=gt_enc_map h
theorem gt_eCodeI {c:Code} {i:Int} {r:List Ln4} (h0:0<=i) (h:c[i.toNat]?=some r):gt Ar.std (cL 4) (eCode c) i=some (eLns r):=gt_enc_mapI h0 h
def CodeOk (c:Code):Prop:=c.length<Lg /\ ∀ r∈c,r.length<Lg
end Go.Am
