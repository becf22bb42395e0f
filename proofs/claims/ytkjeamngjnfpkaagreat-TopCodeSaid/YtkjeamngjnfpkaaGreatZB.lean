import Derived.Test.YtkjeamngjnfpkaaGreatGenp1
import Derived.Test.YtkjeamngjnfpkaaGreatAmLaw
set_option maxRecDepth 100000
set_option linter.unusedVariables false
set_option linter.unusedSimpArgs false
namespace Go.Am
open Go
abbrev Call:=Int×Int×Int×Int×Int×Int
abbrev a5A:Cod Call:=cG (lc (cI .i64) (lc (cI .i64) (lc (cI .i64) (lc (cI .i64) (lc (cI .i64) (l1 (cI .i64)))))))
abbrev b8l:Cod (Int×Int×List D×List D):=cG (lc (cI .i64) (lc (cI .i64) (lc (cL 1) (l1 (cL 1)))))
abbrev Tab:=List (List Int)
def a0r (t:Tab):List D:=enc (cL 1) (t.map (enc (cI .i64)))
abbrev Spec:=Int×Int×Tab×Tab
def c4D (s:Spec):Int×Int×List D×List D:=(s.1,s.2.1,a0r s.2.2.1,a0r s.2.2.2)
abbrev a0E (l:List Spec):List D:=enc b8l (l.map c4D)
abbrev a0b (h:List Call):List D:=enc a5A h
abbrev a0d (l:List Int):List D:=enc (cI .i64) l
abbrev Lg:Nat:=9223372036854775808
def a0C (t:Tab):Prop:=t.length<Lg /\ ∀ r∈t,r.length<Lg
def a1Y (l:List Spec):Prop:=l.length<Lg /\ ∀ s∈l,a0C s.2.2.1/\a0C s.2.2.2
namespace Call
abbrev th (c:Call):Int:=c.1
abbrev ob (c:Call):Int:=c.2.1
abbrev op (c:Call):Int:=c.2.2.1
abbrev sa (c:Call):Int:=c.2.2.2.1
abbrev fr (c:Call):Int:=c.2.2.2.2.1
abbrev to (c:Call):Int:=c.2.2.2.2.2
end Call
def btw (a b c:Int):Bool:=decide (a<=b)&&decide (b<=c)
@[simp] theorem a0n (a b c:Int):btw a b c=true↔a<=b/\b<=c:=by simp [btw]
@[simp] theorem b8m (t:Tab):(a0r t).length=t.length:=by simp [a0r]
theorem a2n (t:Tab):Ar.std.len (a0r t)=(t.length:Int):=by simp
theorem a5B {t:Tab} {i:Nat} {r:List Int} (h:t[i]?=some r):gt Ar.std (cL 1) (a0r t) (i:Int)=some (a0d r):=a5z h
theorem a1O {t:Tab} {i:Int} {r:List Int} (h0:0<=i) (h:t[i.toNat]?=some r):gt Ar.std (cL 1) (a0r t) i=some (a0d r):=a4K h0 h
theorem a6S {l:List Spec} {i:Nat} {s:Spec} (h:l[i]?=some s):gt Ar.std b8l (a0E l) (i:Int)=some (s.1,s.2.1,a0r s.2.2.1,a0r s.2.2.2):=a5z h
theorem a4q {l:List Spec} {i:Int} {s:Spec} (h0:0<=i) (h:l[i.toNat]?=some s):gt Ar.std b8l (a0E l) i=some (s.1,s.2.1,a0r s.2.2.1,a0r s.2.2.2):=a4K h0 h
theorem a2h (l:List Spec):Ar.std.len (a0E l)=(l.length:Int):=by simp [a0E]
theorem ltC {i n:Nat} (h:i<n):decide ((i:Int)<(n:Int))=true:=by simp;omega
abbrev Ln4:=Int×Int×Int×Int
abbrev cLn:Cod Ln4:=cG (lc (cI .i64) (lc (cI .i64) (lc (cI .i64) (l1 (cI .i64)))))
abbrev b0c (l:List Ln4):List D:=enc cLn l
abbrev Code:=List (List Ln4)
def a0o (c:Code):List D:=enc (cL 4) (c.map b0c)
@[simp] theorem b7o (c:Code):(a0o c).length=c.length:=by simp [a0o]
theorem a2q (c:Code):Ar.std.len (a0o c)=(c.length:Int):=by simp
theorem a2W {c:Code} {i:Nat} {r:List Ln4} (h:c[i]?=some r):gt Ar.std (cL 4) (a0o c) (i:Int)=some (b0c r):=a5z h
theorem a9E {c:Code} {i:Int} {r:List Ln4} (h0:0<=i) (h:c[i.toNat]?=some r):gt Ar.std (cL 4) (a0o c) i=some (b0c r):=a4K h0 h
def a1q (c:Code):Prop:=c.length<Lg /\ ∀ r∈c,r.length<Lg
end Go.Am
