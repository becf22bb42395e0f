import Derived.Test.YtkjeamngjnfpkaaGreatZB
import Derived.Test.YtkjeamngjnfpkaaGreatAmLaw
set_option maxRecDepth 100000
set_option linter.unusedVariables false
set_option linter.unusedSimpArgs false
namespace Go.Am
open Go
theorem a3I (a b c:Int):Z82 Ar.std a b c=some (btw a b c):=by simp [Z82,btw]
theorem a5P (a b c:Int):Z77 Ar.std a b c=some (btw a b c):=by simp [Z77,btw]
def a0N (n:Int):Bool:=btw 0 n 3
def a2L (n:Int):Bool:=btw 0 n 2
def a2r (l:Ln4) (many:Int):Bool :=
 if l.1=1 then a0N l.2.1&&(a2L l.2.2.1&&decide (l.2.2.2=0))
 else if l.1=2 then a2L l.2.1&&(a0N l.2.2.1&&decide (l.2.2.2=0))
 else if l.1=3 then a2L l.2.1&&(a0N l.2.2.1&&a0N l.2.2.2)
 else if l.1=4 then a0N l.2.1&&(btw 0 l.2.2.1 9&&decide (l.2.2.2=0))
 else if l.1=5 then a0N l.2.1&&(a0N l.2.2.1&&a0N l.2.2.2)
 else if l.1=6 then a0N l.2.1&&(btw 0 l.2.2.1 (many-1)&&decide (l.2.2.2=0))
 else if l.1=7 then a0N l.2.1&&(decide (l.2.2.1=0)&&decide (l.2.2.2=0))
 else false
def a6e (l:List Ln4):Bool :=
 match l[l.length-1]? with
 | some x=>decide (x.1=7)
 | none=>false
def a2x (l:List Ln4):Bool:=btw 1 l.length 8&&(l.all (fun x=>a2r x l.length)&&a6e l)
def a1e (c:Code):Bool:=btw 1 c.length 4&&c.all a2x
def a4C (n:Int) (w:List Int):Bool:=decide ((w.length:Int)<=3)&&w.all fun i=>btw 0 i (n-1)
def a3E (c:Code) (u:Tab):Bool:=btw 1 u.length 2&&u.all (a4C c.length)
theorem b8n (n:Int):b9v Ar.std n=some (!a0N n):=by simp [b9v,a3I,a0N]
theorem b0D (l:List Int) (hl:l.length<Lg):b0X Ar.std (a0d l)=some (l.all a0N):=by
 have e:iter (a8Q Ar.std (a0d l)) 0=some ((l.findIdx? fun n => !a0N n).elim (.inl ()) (fun i => .inr (i:Int))):=by
  refine a1o l _ _ _ (fun i n hn hi => ?_) ?_
  ·simp [a8Q,b8n,a0t hn,hi,a0G hi hl]
  simp [a8Q]
 simp only [b0X,c2n,c2m,e,a0l,a1p,a0Z,a2g,a1d,Bool.not_not]
theorem b8o (n:Int):b7L Ar.std n=some (a2L n):=by simp [b7L,a3I,a2L]
theorem c0T (a:Int):b0X Ar.std [.int .i64 a]=some (a0N a):=by
 have:=b0D [a] (by simp [Lg]);simpa [enc,cI] using this
theorem c0U (a b:Int):b0X Ar.std [.int .i64 a,.int .i64 b]=some (a0N a&&a0N b):=by
 have:=b0D [a,b] (by simp [Lg]);simpa [enc,cI] using this
theorem c0V (a b c:Int):b0X Ar.std [.int .i64 a,.int .i64 b,.int .i64 c]=some (a0N a&&(a0N b&&a0N c)):=by
 have:=b0D [a,b,c] (by simp [Lg]);simpa [enc,cI] using this
theorem b8p (l:Ln4) (m:Int) (h0:0<=m) (hm:m<Lg):b9w Ar.std l.1 l.2.1 l.2.2.1 l.2.2.2 m=some (a2r l m):=by
 obtain ⟨d,a,b,c⟩:=l;have hw:IntKind.i64.wrap (m-1)=m-1:=b2v (by omega) hm;simp only [b9w,c0T,c0U,c0V,b8o,a3I,a0l,a0F,a0g,a0D,hw,a2r];by_cases h1:d=1
 ·subst h1;simp <;> (cases a0N a <;> cases a2L b <;> simp)
 by_cases h2:d=2
 ·subst h2;simp <;> (cases a2L a <;> cases a0N b <;> simp)
 by_cases h3:d=3
 ·subst h3;simp <;> (cases a2L a <;> simp)
 by_cases h4:d=4
 ·subst h4;simp <;> (cases a0N a <;> cases btw 0 b 9 <;> simp)
 by_cases h5:d=5
 ·subst h5;simp
 by_cases h6:d=6
 ·subst h6;simp <;> (cases a0N a <;> cases btw 0 b (m-1) <;> simp)
 by_cases h7:d=7
 ·subst h7;simp <;> (cases a0N a <;> cases h:decide (b=0) <;> simp_all)
 simp [h1,h2,h3,h4,h5,h6,h7]
theorem b8q (l:Ln4) (m:List Ln4) (hm:m.length<Lg):b9x Ar.std l.1 l.2.1 l.2.2.1 l.2.2.2 (b0c m)=some (!a2r l m.length):=by
 simp only [b9x,a0p,b8p l m.length (by omega) (by omega),a0l]
theorem b8r (l m:List Ln4) (hl:l.length<Lg) (hm:m.length<Lg):b9y Ar.std (b0c l) (b0c m)=some (!l.all fun x=>a2r x m.length):=by
 have e:iter (a8R Ar.std (b0c l) (b0c m)) 0=some ((l.findIdx? fun x => !a2r x m.length).elim (.inl ()) (fun i => .inr (i:Int))):=by
  refine a1o l _ _ _ (fun i n hn hi => ?_) ?_
  ·obtain ⟨a,b,c,d⟩:=n;have:=b8q (a,b,c,d) m hm;simp only at this;simp [a8R,a0t hn,hi,a0G hi hl,this]
  simp [a8R]
 simp only [b9y,c2o,e,a0l,a1p,a0Z,a2g,a1d]
theorem b8s (l:List Ln4) (hl:l.length<Lg):b9z Ar.std (b0c l)=some (a2x l):=by
 simp only [b9z,a3I,a0p,a0l,b8r l l hl hl];unfold a2x;cases h:btw 1 l.length 8 with
 | false=>rfl
 | true =>
   have hb:=(a0n _ _ _).1 h;cases ha:l.all fun x=>a2r x l.length with
   | false=>rfl
   | true =>
     have hlt:l.length-1<l.length:=by omega
     have hg : ∃ a b c d,l[l.length-1]?=some (a,b,c,d):=⟨_,_,_,_,zp1 hlt⟩;obtain ⟨a,b,c,d,hg⟩:=hg;have hi:IntKind.i64.wrap ((l.length:Int)-1)=((l.length-1:Nat):Int):=by rw [b2v (by omega) (by omega)];omega
     simp only [a0g,a0D,hi,a0t hg,a0l,cond_true,Bool.not_true,cond_false,a6e,hg,a0F,Bool.true_and]
theorem b7p (c:Code) (hc:a1q c):Z80 Ar.std (a0o c)=some (a1e c):=by
 have e:iter (a8S Ar.std (a0o c)) 0=some ((c.findIdx? fun l => !a2x l).elim (.inl ()) (fun i => .inr (i:Int))):=by
  refine a1o c _ _ _ (fun i n hn hi => ?_) ?_
  ·simp [a8S,c2p,b8s n (hc.2 n (List.mem_of_getElem? hn)),a2W hn,hi,a0G hi hc.1]
  simp [a8S]
 simp only [Z80,a3I,c2r,c2q,e,a0l,a1p,a0Z,a2g,a2q,a1d,a1e];cases btw 1 c.length 4 <;> simp
theorem b2w {n:Nat} (h:n<Lg):IntKind.i64.wrap ((n:Int)-1)=(n:Int)-1:=by
 have h':n<9223372036854775808:=h;exact b2v (by omega) (by omega)
theorem b8t (n:Int) (c:Code) (hc:a1q c):b9A Ar.std n (a0o c)=some (!btw 0 n (c.length-1)):=by
 simp only [b9A,a3I,a2q,a0g,a0D,b2w hc.1,a0l]
theorem b8u (c:Code) (hc:a1q c) (w:List Int) (hw:w.length<Lg):b9B Ar.std (a0o c) (a0d w)=some (a4C c.length w):=by
 have e:iter (a6k Ar.std (a0d w) (a0o c)) 0=some ((w.findIdx? fun n => !btw 0 n (c.length-1)).elim (.inl ()) (fun i => .inr (i:Int))):=by
  refine a1o w _ _ _ (fun i n hn hi => ?_) ?_
  ·simp [a6k,b8t n c hc,a0t hn,hi,a0G hi hw]
  simp [a6k]
 simp only [b9B,b5m,b5l,e,a0l,a1p,a0Z,a2g,a1d,Bool.not_not,a0p,a4C,a0O];cases decide ((w.length:Int)<=3) <;> rfl
theorem c0W (c:Code) (hc:a1q c) (u:Tab) (hu:a0C u):Z86 Ar.std (a0o c) (a0r u)=some (a3E c u):=by
 have e:iter (a8T Ar.std (a0r u) (a0o c)) 0=some ((u.findIdx? fun w => !a4C c.length w).elim (.inl ()) (fun i => .inr (i:Int))):=by
  refine a1o u _ _ _ (fun i n hn hi => ?_) ?_
  ·simp [a8T,c2s,b8u c hc n (hu.2 n (List.mem_of_getElem? hn)),a5B hn,hi,a0G hi hu.1]
  simp [a8T]
 simp only [Z86,c2u,c2t,e,a0l,a1p,a0Z,a2g,a3I,a2n,a1d,Bool.not_not,a0O,a3E];cases btw 1 u.length 2 <;> rfl
theorem b8v (n:Int):b0Y Ar.std n=some (a0N n):=by simp [b0Y,a5P,a0N]
theorem b8w (n:Int):b7M Ar.std n=some (a2L n):=by simp [b7M,a5P,a2L]
theorem b8x (n:Int):b9N Ar.std n=some (btw 0 n 9):=by simp [b9N,a5P]
theorem c0X (l:Ln4) (m:Int) (h0:0<=m) (hm:m<Lg):Z78 Ar.std l.1 l.2.1 l.2.2.1 l.2.2.2 m=some (a2r l m):=by
 obtain ⟨d,a,b,c⟩:=l;have hw:IntKind.i64.wrap (m-1)=m-1:=b2v (by omega) hm;simp only [Z78,b8v,b8w,b8x,a5P,a0l,a0F,a0g,a0D,hw,a2r];by_cases h1:d=1
 ·subst h1;simp <;> (cases a0N a <;> cases a2L b <;> simp)
 by_cases h2:d=2
 ·subst h2;simp <;> (cases a2L a <;> cases a0N b <;> simp)
 by_cases h3:d=3
 ·subst h3;simp <;> (cases a2L a <;> cases a0N b <;> simp)
 by_cases h4:d=4
 ·subst h4;simp <;> (cases a0N a <;> cases btw 0 b 9 <;> simp)
 by_cases h5:d=5
 ·subst h5;simp <;> (cases a0N a <;> cases a0N b <;> simp)
 by_cases h6:d=6
 ·subst h6;simp <;> (cases a0N a <;> cases btw 0 b (m-1) <;> simp)
 by_cases h7:d=7
 ·subst h7;simp <;> (cases a0N a <;> cases h:decide (b=0) <;> simp_all)
 simp [h1,h2,h3,h4,h5,h6,h7]
theorem b6d (l:List Ln4) (hl:l.length<Lg):iter (b2V Ar.std (b0c l)) 0=some (bif (l.any fun x => !a2r x l.length) then .inr () else .inl ()):=by
 refine a1k l _ _ _ (fun i n hn hi => ?_) ?_
 ·have:=c0X n l.length (by omega) (by omega);obtain ⟨a,b,c,d⟩:=n;simp only at this;simp [b2V,a0t hn,hi,a0G hi hl,this]
 simp [b2V]
theorem c0Y (c:Code) (hc:a1q c):Z30 Ar.std (a0o c)=some (a1e c):=by
 have e:iter (b2W Ar.std (a0o c)) 0=some (bif (c.any fun l => !a2x l) then .inr () else .inl ()):=by
  refine a1k c _ _ _ (fun i l hn hi => ?_) ?_
  ·have hl:=hc.2 l (List.mem_of_getElem? hn);simp only [b2W,a0x,a2q,ltC hi,cond_true,a2W hn,a0l,a5P,a0p,b6d l hl,a0g,a0i,a0G hi hc.1,a2x];cases h:btw 1 l.length 8 with
   | false=>rfl
   | true =>
     have hb:=(a0n _ _ _).1 h;rw [a1d];cases ha:l.all fun x=>a2r x l.length with
     | false=>rfl
     | true =>
       have hlt:l.length-1<l.length:=by omega
       have hg : ∃ a b c d,l[l.length-1]?=some (a,b,c,d):=⟨_,_,_,_,zp1 hlt⟩;obtain ⟨a,b,cc,d,hg⟩:=hg;have hi':IntKind.i64.wrap ((l.length:Int)-1)=((l.length-1:Nat):Int):=by rw [b2w hl];omega
       simp only [a0D,hi',a0t hg,a0l,cond_true,Bool.not_true,cond_false,Sum.elim_inl,a6e,hg,a0F,Bool.true_and];cases decide (a=7) <;> rfl
  simp [b2W]
 simp only [Z30,a5P,e,a0l,a2q,a1d,a1e];cases btw 1 c.length 4 <;> cases c.all a2x <;> rfl
theorem c0Z (c:Code) (hc:a1q c) (u:Tab) (hu:a0C u):Z32 Ar.std (a0o c) (a0r u)=some (a3E c u):=by
 have e0 : ∀ w:List Int,w.length<Lg->iter (b2Z Ar.std (a0o c) (a0d w)) 0=some (bif (w.any fun i => !btw 0 i (c.length-1)) then .inr () else .inl ()):=by
  intro w hw;refine a1k w _ _ _ (fun i n hn hi => ?_) ?_
  ·simp only [b2Z,a0x,a0p,ltC hi,cond_true,a0t hn,a0l,a5P,a2q,a0g,a0D,a0i,b2w hc.1,a0G hi hw];cases btw 0 n (c.length-1) <;> rfl
  simp [b2Z]
 have e:iter (b3a Ar.std (a0o c) (a0r u)) 0=some (bif (u.any fun w => !a4C c.length w) then .inr () else .inl ()):=by
  refine a1k u _ _ _ (fun i w hn hi => ?_) ?_
  ·have hw:=hu.2 w (List.mem_of_getElem? hn);simp only [b3a,a0x,a2n,ltC hi,cond_true,a5B hn,a0l,a0p,e0 w hw,a0g,a0i,a0G hi hu.1,a4C,a1d];by_cases h3:(w.length:Int)<=3
   ·have h4 : ¬ (3:Int)<w.length:=by omega
    simp only [h3,h4,decide_true,decide_false,cond_false,Bool.true_and];cases w.all fun i=>btw 0 i (c.length-1) <;> rfl
   have h4:(3:Int)<w.length:=by omega
   simp only [h3,h4,decide_true,decide_false,cond_true,Bool.false_and];rfl
  simp [b3a]
 simp only [Z32,a5P,e,a0l,a2n,a1d,a3E];cases btw 1 u.length 2 <;> cases u.all (a4C c.length) <;> rfl
def a3o (c:Code) (u:Tab):Int:=bif a1e c then bif a3E c u then 0 else 81 else 80
theorem b1r (c:Code) (hc:a1q c) (u:Tab) (hu:a0C u):Z40 Ar.std (a0o c) (a0r u)=some (a3o c u):=by
 simp only [Z40,b7p c hc,c0W c hc u hu,a0l,a3o];cases a1e c <;> cases a3E c u <;> rfl
set_option maxHeartbeats 2000000
theorem bt {α β:Type} {o:Option α} {f:α->Option β} {v:α} {r:Option β} (h:o=some v) (h2:f v=r):o.bind f=r:=by rw [h];exact h2
theorem cnT {α:Type} {b:Bool} {x y r:α} (h:b=true) (h2:x=r):(bif b then x else y)=r:=by rw [h];exact h2
theorem cnF {α:Type} {b:Bool} {x y r:α} (h:b=false) (h2:y=r):(bif b then x else y)=r:=by rw [h];exact h2
def rg4 (a b c d i:Int):Int:=if i=0 then a else if i=1 then b else if i=2 then c else d
def rg3 (a b c i:Int):Int:=if i=0 then a else if i=1 then b else c
def pk (z i v r:Int):Int:=bif decide (z=i) then v else r
theorem a6T {i:Int}:a0N i=true↔i=0\/i=1\/i=2\/i=3:=by simp [a0N];omega
theorem a6U {i:Int}:a2L i=true↔i=0\/i=1\/i=2:=by simp [a2L];omega
theorem gc4 {a b c d i:Int} (h:a0N i=true):gc Ar.std (cI .i64) [.int .i64 a,.int .i64 b,.int .i64 c,.int .i64 d] (Ar.std.nat i)=some (rg4 a b c d i):=by
 rcases a6T.1 h with rfl | rfl | rfl | rfl <;> simp [gc,rg4]
theorem gc3 {a b c i:Int} (h:a2L i=true):gc Ar.std (cI .i64) [.int .i64 a,.int .i64 b,.int .i64 c] (Ar.std.nat i)=some (rg3 a b c i):=by
 rcases a6U.1 h with rfl | rfl | rfl <;> simp [gc,rg3]
theorem a7M {i:Int} (h:a0N i=true):ck (Ar.std.zle 0 i)=some ():=a4I (by rcases a6T.1 h with rfl | rfl | rfl | rfl <;> rfl)
theorem a7N {i:Int} (h:a0N i=true):ck (Ar.std.zlt i (Int.ofNat 4))=some ():=a4I (by rcases a6T.1 h with rfl | rfl | rfl | rfl <;> rfl)
theorem b7q {i:Int} (h:a2L i=true):ck (Ar.std.zle 0 i)=some ():=a4I (by rcases a6U.1 h with rfl | rfl | rfl <;> rfl)
theorem b7r {i:Int} (h:a2L i=true):ck (Ar.std.zlt i (Int.ofNat 3))=some ():=a4I (by rcases a6U.1 h with rfl | rfl | rfl <;> rfl)
abbrev Xs:=Int×Int×Int×Int×Int×Int×Int×Int×Int×List Call
def xLn (l:Ln4) (st cl ln r0 r1 r2 r3 at_ c0 c1 c2:Int) (h:List Call):Xs :=
 let A:=l.2.1;let B:=l.2.2.1;let C:=l.2.2.2
 if l.1=1 then let v:=rg3 c0 c1 c2 B;(cl,ln+1,pk A 0 v r0,pk A 1 v r1,pk A 2 v r2,pk A 3 v r3,c0,c1,c2,h)
 else if l.1=2 then let v:=rg4 r0 r1 r2 r3 B;(cl,ln+1,r0,r1,r2,r3,pk A 0 v c0,pk A 1 v c1,pk A 2 v c2,h)
 else if l.1=3 then
  if rg3 c0 c1 c2 A=rg4 r0 r1 r2 r3 B then let v:=rg4 r0 r1 r2 r3 C;(cl,ln+1,r0,r1,r2,1,pk A 0 v c0,pk A 1 v c1,pk A 2 v c2,h)
  else (cl,ln+1,r0,r1,r2,0,c0,c1,c2,h)
 else if l.1=4 then (cl,ln+1,pk A 0 B r0,pk A 1 B r1,pk A 2 B r2,pk A 3 B r3,c0,c1,c2,h)
 else if l.1=5 then let v:=(rg4 r0 r1 r2 r3 B+rg4 r0 r1 r2 r3 C).tmod 10;(cl,ln+1,pk A 0 v r0,pk A 1 v r1,pk A 2 v r2,pk A 3 v r3,c0,c1,c2,h)
 else if l.1=6 then (cl,(if rg4 r0 r1 r2 r3 A=0 then B else ln+1),r0,r1,r2,r3,c0,c1,c2,h)
 else
  (cl+1,0,r0,r1,r2,r3,c0,c1,c2,match h[at_.toNat]? with
   | some x=>h.set at_.toNat (x.1,x.2.1,x.2.2.1,rg4 r0 r1 r2 r3 A,x.2.2.2.2.1,2*st)
   | none=>h)
def dg (n:Int):Prop:=0<=n/\n<=9
theorem a7O {a b c d i:Int} (ha:dg a) (hb:dg b) (hc:dg c) (hd:dg d):dg (rg4 a b c d i):=by
 unfold rg4;split;exact ha;split;exact hb;split;exact hc;exact hd
theorem c1a {a b c i:Int} (ha:dg a) (hb:dg b) (hc:dg c):dg (rg3 a b c i):=by
 unfold rg3;split;exact ha;split;exact hb;exact hc
theorem w64 {n:Int} (h0 : -1000000000<=n) (h1:n<=1000000000):IntKind.i64.wrap n=n:=a8P _ (by omega) (by omega)
theorem a6V {l:Ln4} {m:Int} (h:a2r l m=true) :
  (l.1=1/\a0N l.2.1=true/\a2L l.2.2.1=true)\/(l.1=2/\a2L l.2.1=true/\a0N l.2.2.1=true)\/(l.1=3/\a2L l.2.1=true/\a0N l.2.2.1=true/\a0N l.2.2.2=true) \/
  (l.1=4/\a0N l.2.1=true/\dg l.2.2.1)\/(l.1=5/\a0N l.2.1=true/\a0N l.2.2.1=true/\a0N l.2.2.2=true)\/(l.1=6/\a0N l.2.1=true/\0<=l.2.2.1/\l.2.2.1<m)\/(l.1=7/\a0N l.2.1=true):=by
 unfold a2r at h;split at h
 ·rename_i h1;simp only [zp4] at h;exact .inl ⟨h1,h.1,h.2.1⟩
 split at h
 ·rename_i h1;simp only [zp4] at h;exact .inr (.inl ⟨h1,h.1,h.2.1⟩)
 split at h
 ·rename_i h1;simp only [zp4] at h;exact .inr (.inr (.inl ⟨h1,h.1,h.2.1,h.2.2⟩))
 split at h
 ·rename_i h1;simp only [zp4,a0n] at h;exact .inr (.inr (.inr (.inl ⟨h1,h.1,h.2.1⟩)))
 split at h
 ·rename_i h1;simp only [zp4] at h;exact .inr (.inr (.inr (.inr (.inl ⟨h1,h.1,h.2.1,h.2.2⟩))))
 split at h
 ·rename_i h1;simp only [zp4,a0n] at h;exact .inr (.inr (.inr (.inr (.inr (.inl ⟨h1,h.1,h.2.1.1,by omega⟩)))))
 split at h
 ·rename_i h1;simp only [zp4] at h;exact .inr (.inr (.inr (.inr (.inr (.inr ⟨h1,h.1⟩)))))
 cases h
theorem b8y (d a b c:Int) (x5 x6:List D) (x7 x8 r0 r1 r2 r3 x13 x14 x15 x16 x17 x18 x19 x20 c0 c1 c2 x24:Int) (x25 x26:List D) (ha:a2L a=true) (hb:a0N b=true) (hc:a0N c=true) :
  b9E Ar.std d a b c x5 x6 x7 x8 r0 r1 r2 r3 x13 x14 x15 x16 x17 x18 x19 x20 c0 c1 c2 x24 x25 x26 =
   some (if rg3 c0 c1 c2 a=rg4 r0 r1 r2 r3 b then (1,pk a 0 (rg4 r0 r1 r2 r3 c) c0,pk a 1 (rg4 r0 r1 r2 r3 c) c1,pk a 2 (rg4 r0 r1 r2 r3 c) c2) else (0,c0,c1,c2)):=by
 unfold b9E;refine bt (b7q ha) (bt (b7r ha) (bt (gc3 ha) (bt (a7M hb) (bt (a7N hb) (bt (gc4 hb) ?_)))));by_cases h:rg3 c0 c1 c2 a=rg4 r0 r1 r2 r3 b
 ·rw [if_pos h];exact cnT (decide_eq_true h) (bt (a7M hc) (bt (a7N hc) (bt (gc4 hc) (bt (b7q ha) (bt (b7r ha) rfl)))))
 rw [if_neg h];exact cnF (decide_eq_false h) rfl
theorem b6e (d a b c:Int) (x5 x6:List D) (x7 x8 x9 x10 x11 x12 x13 x14 x15 r0 r1 r2 r3 x20 c0 c1 c2 x24:Int) (x25 x26:List D) (ha:a2L a=true) (hb:a0N b=true) (hc:a0N c=true) :
  b2O Ar.std d a b c x5 x6 x7 x8 x9 x10 x11 x12 x13 x14 x15 r0 r1 r2 r3 x20 c0 c1 c2 x24 x25 x26 =
   some (if rg3 c0 c1 c2 a=rg4 r0 r1 r2 r3 b then (1,pk a 0 (rg4 r0 r1 r2 r3 c) c0,pk a 1 (rg4 r0 r1 r2 r3 c) c1,pk a 2 (rg4 r0 r1 r2 r3 c) c2) else (0,c0,c1,c2)):=by
 unfold b2O;refine bt (b7q ha) (bt (b7r ha) (bt (gc3 ha) (bt (a7M hb) (bt (a7N hb) (bt (gc4 hb) ?_)))));by_cases h:rg3 c0 c1 c2 a=rg4 r0 r1 r2 r3 b
 ·rw [if_pos h];exact cnT (decide_eq_true h) (bt (a7M hc) (bt (a7N hc) (bt (gc4 hc) (bt (b7q ha) (bt (b7r ha) rfl)))))
 rw [if_neg h];exact cnF (decide_eq_false h) rfl
def open_ (t:Int) (h:List Call):Bool:=h.any fun c=>decide (c.1=t)&&decide (c.2.2.2.2.2=0)
theorem b4o (t:Int) (x2 x3:List D) (x4 x5 x6 x7 x8 x9 x10 x11 x12 x13 x14 x15 x16 x17 x18 x19 x20 x21:Int) (h:List Call) (hl:h.length<Lg) (x23:List D) :
  b9o Ar.std t x2 x3 x4 x5 x6 x7 x8 x9 x10 x11 x12 x13 x14 x15 x16 x17 x18 x19 x20 x21 (a0b h) x23=some (open_ t h):=by
 have e:iter (a8U Ar.std t (a0b h)) 0=some ((h.findIdx? fun c=>decide (c.1=t)&&decide (c.2.2.2.2.2=0)).elim (.inl ()) (fun i => .inr (i:Int))):=by
  refine a1o h _ _ _ (fun i n hn hi => ?_) ?_
  ·obtain ⟨a,b,c,d,e,f⟩:=n;have h1:gc Ar.std a5A (a0b h) (Ar.std.nat (i:Int))=some (a,b,c,d,e,f):=a2U (by simpa using hn);have h0:ck (Ar.std.zle 0 (i:Int))=some ():=a4I (by simp);have h2:ck (Ar.std.zlt (i:Int) (Ar.std.len (a0b h)))=some ():=a4I (by simp;omega);unfold a8U;refine cnT (by simp;omega) (bt h0 (bt h2 (bt h1 ?_)));have h3:b9C Ar.std a b c d e f t=some (decide (a=t)&&decide (f=0)):=by
    simp only [b9C,a0F];cases decide (a=t) <;> simp
   refine bt h3 ?_;simp only [a0g,a0i,a0G hi hl];cases decide (a=t)&&decide (f=0) <;> rfl
  simp [a8U]
 simp only [b9o,c2w,c2v,e,a0l,a1p,a0Z,a2g,open_]
def beg (inn:Bool) (t op st r0 r1 r2 r3 at_:Int) (h:List Call) (mk:List Int):Int×Int×Int×Int×Int×List Call×List Int :=
 bif inn then (r0,r1,r2,r3,at_,h,mk) else (0,1,0,0,h.length,h++[(t,0,op,0,2*st+1,0)],mk++[0])
def a9F (mks:List Int) (op ln:Int):Bool:=decide (0<mks.length)&&decide (mks[op.toNat]?=some ln)
def mkd (mks:List Int) (op ln at_ st:Int) (mk:List Int):List Int:=bif a9F mks op ln then mk.set at_.toNat st else mk
theorem b1s {inn:Bool} {ln:Int} (hln:inn=false->ln=0):(bif decide (ln=0) then (some inn).bind (fun r=>some (!r)) else some false:Option Bool)=some (!inn):=by
 cases inn with
 | false=>rw [hln rfl];rfl
 | true=>cases decide (ln=0) <;> rfl
theorem b7s (inn:Bool) (t op st r0 r1 r2 r3 at_:Int) (h:List Call) (mk:List Int) (hh:h.length<1000) (hm:mk.length<1000) (hst:0<=st/\st<=1000) :
  (bif !inn then
   (b9D Ar.std).bind fun () =>
   (ap Ar.std (a0b h) [.agg [.int .i64 t,.int .i64 0,.int .i64 op,.int .i64 0,.int .i64 (Ar.std.wrp .i64 (Ar.std.zadd (Ar.std.wrp .i64 (Ar.std.zmul 2 st)) 1)),.int .i64 0]]).bind fun l =>
   (ap Ar.std (a0d mk) [.int .i64 0]).bind fun l' =>
   some (0,1,0,0,Ar.std.len (a0b h),l,l')
   else some (r0,r1,r2,r3,at_,a0b h,a0d mk):Option (Int×Int×Int×Int×Int×List D×List D)) =
  some ((beg inn t op st r0 r1 r2 r3 at_ h mk).1,(beg inn t op st r0 r1 r2 r3 at_ h mk).2.1,(beg inn t op st r0 r1 r2 r3 at_ h mk).2.2.1,(beg inn t op st r0 r1 r2 r3 at_ h mk).2.2.2.1,(beg inn t op st r0 r1 r2 r3 at_ h mk).2.2.2.2.1,
   a0b (beg inn t op st r0 r1 r2 r3 at_ h mk).2.2.2.2.2.1,a0d (beg inn t op st r0 r1 r2 r3 at_ h mk).2.2.2.2.2.2):=by
 cases inn with
 | true=>rfl
 | false =>
   have h1:Ar.std.wrp .i64 (Ar.std.zadd (Ar.std.wrp .i64 (Ar.std.zmul 2 st)) 1)=2*st+1:=by
    simp only [a0g,a0i,a8s];rw [w64 (n:=2*st) (by omega) (by omega),w64 (by omega) (by omega)]
   rw [h1];refine cnT rfl (bt (v:=()) rfl (bt (a1y (c:=a5A) (a:=(t,0,op,0,2*st+1,0)) rfl (by omega)) (bt (a1y (c:=cI .i64) (a:=0) rfl (by omega)) ?_)));simp only [a0p];rfl
theorem b7t (mks:List Int) (op ln at_ st:Int) (mk:List Int) (ha:0<=at_) (ha2:at_<mk.length) (hst:0<=st/\st<=1000) :
  (bif a9F mks op ln then
   (ck (Ar.std.zle 0 at_)).bind fun _ =>
   (ck (Ar.std.zlt at_ (Ar.std.len (a0d mk)))).bind fun _ =>
   (gc Ar.std (cI .i64) (a0d mk) (Ar.std.nat at_)).bind fun _ =>
   some (Ar.std.lset (a0d mk) (Ar.std.nat at_) (.int .i64 (Ar.std.wrp .i64 (Ar.std.zadd st 1))))
   else some (a0d mk):Option (List D))=some (a0d (mkd mks op ln at_ (st+1) mk)):=by
 unfold mkd;cases a9F mks op ln with
 | false=>rfl
 | true =>
   have h1:Ar.std.wrp .i64 (Ar.std.zadd st 1)=st+1:=by simp only [a0g,a0i];exact w64 (by omega) (by omega)
   have hg:mk[at_.toNat]?=some mk[at_.toNat]:=zp1 (by omega);rw [h1];refine cnT rfl (bt (a4I (by simpa using ha)) (bt (a4I (by simpa using ha2)) (bt (a2U (c:=cI .i64) (i:=at_.toNat) hg) ?_)));exact congrArg some (a3D (c:=cI .i64) mk at_.toNat (st+1))
theorem b1t (mks:List Int) (op ln:Int) (hop:0<=op) (hm:mks=[]\/op.toNat<mks.length) :
  (bif Ar.std.zlt 0 (Ar.std.len (a0d mks)) then (gt Ar.std (cI .i64) (a0d mks) op).bind (fun a=>some (Ar.std.zeq a ln)) else some false:Option Bool)=some (a9F mks op ln):=by
 rcases hm with rfl | hm
 ·rfl
 have hg:mks[op.toNat]?=some mks[op.toNat]:=zp1 hm;have h0:0<mks.length:=by omega
 refine cnT (by simp;omega) (bt (a1R hop hg) ?_);simp [a9F,h0,hg]
theorem c4E (c:Code) (u:Tab) (mks:List Int) (cl ln r0 r1 r2 r3 at_ y1 y2 y3 y4 y5 y6 y7 c0 c1 c2 st:Int) (h:List Call) (mk:List Int) (inn:Bool) (op:Int) (w:List Int) (ls:List Ln4) (l:Ln4)
  (hu:u[0]?=some w) (hcl:0<=cl/\cl<=1000) (hw:w[cl.toNat]?=some op) (hop:0<=op) (hc:c[op.toNat]?=some ls) (hln:0<=ln/\ln<=1000) (hl:ls[ln.toNat]?=some l) {m:Int} (hok:a2r l m=true)
  (hopen:open_ 0 h=inn) (hln0:inn=false->ln=0) (hh:h.length<1000) (hm:mk.length=h.length) (hat:inn=true->0<=at_/\at_<h.length) (hst:0<=st/\st<=1000) (hmk:mks=[]\/op.toNat<mks.length)
  (d0:dg r0) (d1:dg r1) (d2:dg r2) (d3:dg r3) :
  Z84 Ar.std 0 (a0d mks) (a0o c) (a0r u) cl ln r0 r1 r2 r3 at_ y1 y2 y3 y4 y5 y6 y7 c0 c1 c2 st (a0b h) (a0d mk)=some (a0o c,a0r u,(xLn l (st+1) cl ln (beg inn 0 op st r0 r1 r2 r3 at_ h mk).1 (beg inn 0 op st r0 r1 r2 r3 at_ h mk).2.1 (beg inn 0 op st r0 r1 r2 r3 at_ h mk).2.2.1 (beg inn 0 op st r0 r1 r2 r3 at_ h mk).2.2.2.1 (beg inn 0 op st r0 r1 r2 r3 at_ h mk).2.2.2.2.1 c0 c1 c2 (beg inn 0 op st r0 r1 r2 r3 at_ h mk).2.2.2.2.2.1).1,(xLn l (st+1) cl ln (beg inn 0 op st r0 r1 r2 r3 at_ h mk).1 (beg inn 0 op st r0 r1 r2 r3 at_ h mk).2.1 (beg inn 0 op st r0 r1 r2 r3 at_ h mk).2.2.1 (beg inn 0 op st r0 r1 r2 r3 at_ h mk).2.2.2.1 (beg inn 0 op st r0 r1 r2 r3 at_ h mk).2.2.2.2.1 c0 c1 c2 (beg inn 0 op st r0 r1 r2 r3 at_ h mk).2.2.2.2.2.1).2.1,(xLn l (st+1) cl ln (beg inn 0 op st r0 r1 r2 r3 at_ h mk).1 (beg inn 0 op st r0 r1 r2 r3 at_ h mk).2.1 (beg inn 0 op st r0 r1 r2 r3 at_ h mk).2.2.1 (beg inn 0 op st r0 r1 r2 r3 at_ h mk).2.2.2.1 (beg inn 0 op st r0 r1 r2 r3 at_ h mk).2.2.2.2.1 c0 c1 c2 (beg inn 0 op st r0 r1 r2 r3 at_ h mk).2.2.2.2.2.1).2.2.1,(xLn l (st+1) cl ln (beg inn 0 op st r0 r1 r2 r3 at_ h mk).1 (beg inn 0 op st r0 r1 r2 r3 at_ h mk).2.1 (beg inn 0 op st r0 r1 r2 r3 at_ h mk).2.2.1 (beg inn 0 op st r0 r1 r2 r3 at_ h mk).2.2.2.1 (beg inn 0 op st r0 r1 r2 r3 at_ h mk).2.2.2.2.1 c0 c1 c2 (beg inn 0 op st r0 r1 r2 r3 at_ h mk).2.2.2.2.2.1).2.2.2.1,(xLn l (st+1) cl ln (beg inn 0 op st r0 r1 r2 r3 at_ h mk).1 (beg inn 0 op st r0 r1 r2 r3 at_ h mk).2.1 (beg inn 0 op st r0 r1 r2 r3 at_ h mk).2.2.1 (beg inn 0 op st r0 r1 r2 r3 at_ h mk).2.2.2.1 (beg inn 0 op st r0 r1 r2 r3 at_ h mk).2.2.2.2.1 c0 c1 c2 (beg inn 0 op st r0 r1 r2 r3 at_ h mk).2.2.2.2.2.1).2.2.2.2.1,(xLn l (st+1) cl ln (beg inn 0 op st r0 r1 r2 r3 at_ h mk).1 (beg inn 0 op st r0 r1 r2 r3 at_ h mk).2.1 (beg inn 0 op st r0 r1 r2 r3 at_ h mk).2.2.1 (beg inn 0 op st r0 r1 r2 r3 at_ h mk).2.2.2.1 (beg inn 0 op st r0 r1 r2 r3 at_ h mk).2.2.2.2.1 c0 c1 c2 (beg inn 0 op st r0 r1 r2 r3 at_ h mk).2.2.2.2.2.1).2.2.2.2.2.1,(beg inn 0 op st r0 r1 r2 r3 at_ h mk).2.2.2.2.1,y1,y2,y3,y4,y5,y6,y7,(xLn l (st+1) cl ln (beg inn 0 op st r0 r1 r2 r3 at_ h mk).1 (beg inn 0 op st r0 r1 r2 r3 at_ h mk).2.1 (beg inn 0 op st r0 r1 r2 r3 at_ h mk).2.2.1 (beg inn 0 op st r0 r1 r2 r3 at_ h mk).2.2.2.1 (beg inn 0 op st r0 r1 r2 r3 at_ h mk).2.2.2.2.1 c0 c1 c2 (beg inn 0 op st r0 r1 r2 r3 at_ h mk).2.2.2.2.2.1).2.2.2.2.2.2.1,(xLn l (st+1) cl ln (beg inn 0 op st r0 r1 r2 r3 at_ h mk).1 (beg inn 0 op st r0 r1 r2 r3 at_ h mk).2.1 (beg inn 0 op st r0 r1 r2 r3 at_ h mk).2.2.1 (beg inn 0 op st r0 r1 r2 r3 at_ h mk).2.2.2.1 (beg inn 0 op st r0 r1 r2 r3 at_ h mk).2.2.2.2.1 c0 c1 c2 (beg inn 0 op st r0 r1 r2 r3 at_ h mk).2.2.2.2.2.1).2.2.2.2.2.2.2.1,(xLn l (st+1) cl ln (beg inn 0 op st r0 r1 r2 r3 at_ h mk).1 (beg inn 0 op st r0 r1 r2 r3 at_ h mk).2.1 (beg inn 0 op st r0 r1 r2 r3 at_ h mk).2.2.1 (beg inn 0 op st r0 r1 r2 r3 at_ h mk).2.2.2.1 (beg inn 0 op st r0 r1 r2 r3 at_ h mk).2.2.2.2.1 c0 c1 c2 (beg inn 0 op st r0 r1 r2 r3 at_ h mk).2.2.2.2.2.1).2.2.2.2.2.2.2.2.1,st+1,a0b (xLn l (st+1) cl ln (beg inn 0 op st r0 r1 r2 r3 at_ h mk).1 (beg inn 0 op st r0 r1 r2 r3 at_ h mk).2.1 (beg inn 0 op st r0 r1 r2 r3 at_ h mk).2.2.1 (beg inn 0 op st r0 r1 r2 r3 at_ h mk).2.2.2.1 (beg inn 0 op st r0 r1 r2 r3 at_ h mk).2.2.2.2.1 c0 c1 c2 (beg inn 0 op st r0 r1 r2 r3 at_ h mk).2.2.2.2.2.1).2.2.2.2.2.2.2.2.2,a0d (mkd mks op ln (beg inn 0 op st r0 r1 r2 r3 at_ h mk).2.2.2.2.1 (st+1) (beg inn 0 op st r0 r1 r2 r3 at_ h mk).2.2.2.2.2.2)):=by
 have hLg:h.length<Lg:=by show h.length<9223372036854775808;omega
 have hwl:Ar.std.wrp .i64 (Ar.std.zadd ln 1)=ln+1:=by simp only [a0g,a0i];exact w64 (by omega) (by omega)
 have hwc:Ar.std.wrp .i64 (Ar.std.zadd cl 1)=cl+1:=by simp only [a0g,a0i];exact w64 (by omega) (by omega)
 have hws:Ar.std.wrp .i64 (Ar.std.zadd st 1)=st+1:=by simp only [a0g,a0i];exact w64 (by omega) (by omega)
 have hw2:Ar.std.wrp .i64 (Ar.std.zmul 2 (st+1))=2*(st+1):=by simp only [a0g,a8s];exact w64 (by omega) (by omega)
 have hB:0<=(beg inn 0 op st r0 r1 r2 r3 at_ h mk).2.2.2.2.1/\(beg inn 0 op st r0 r1 r2 r3 at_ h mk).2.2.2.2.1<(beg inn 0 op st r0 r1 r2 r3 at_ h mk).2.2.2.2.2.1.length/\(beg inn 0 op st r0 r1 r2 r3 at_ h mk).2.2.2.2.2.2.length=(beg inn 0 op st r0 r1 r2 r3 at_ h mk).2.2.2.2.2.1.length/\dg (beg inn 0 op st r0 r1 r2 r3 at_ h mk).1/\dg (beg inn 0 op st r0 r1 r2 r3 at_ h mk).2.1/\dg (beg inn 0 op st r0 r1 r2 r3 at_ h mk).2.2.1/\dg (beg inn 0 op st r0 r1 r2 r3 at_ h mk).2.2.2.1:=by
  cases inn with
  | true=>exact ⟨(hat rfl).1,(hat rfl).2,hm,d0,d1,d2,d3⟩
  | false=>refine ⟨?_,?_,?_,?_,?_,?_,?_⟩ <;> simp [beg,dg,hm] <;> omega
 unfold Z84;refine cnT rfl ?_;refine bt (a1O (by decide) (by simpa using hu)) ?_;refine bt (a1R hcl.1 hw) ?_;refine bt (v := !inn) (by rw [b4o _ _ _ _ _ _ _ _ _ _ _ _ _ _ _ _ _ _ _ _ _ _ hLg _,hopen,a0F];exact b1s hln0) ?_;refine bt (b7s inn 0 op st r0 r1 r2 r3 at_ h mk hh (by omega) hst) ?_;refine bt (b1t mks op ln hop hmk) ?_;obtain ⟨hB1,hB2,hB3,hB4,hB5,hB6,hB7⟩:=hB;refine bt (b7t mks op ln (beg inn 0 op st r0 r1 r2 r3 at_ h mk).2.2.2.2.1 st (beg inn 0 op st r0 r1 r2 r3 at_ h mk).2.2.2.2.2.2 hB1 (by rw [hB3];exact hB2) hst) ?_;refine bt (a9E hop hc) ?_;obtain ⟨d,a,b,e⟩:=l;refine bt (a1R hln.1 hl) ?_;dsimp only;rw [hwl,hws,hwc,hw2];generalize (beg inn 0 op st r0 r1 r2 r3 at_ h mk)=BB at hB1 hB2 hB3 hB4 hB5 hB6 hB7 ⊢;obtain ⟨R0,R1,R2,R3,AT,H,MK⟩:=BB;dsimp only at hB1 hB2 hB3 hB4 hB5 hB6 hB7 ⊢;refine bt (v:=((xLn (d,a,b,e) (st+1) cl ln R0 R1 R2 R3 AT c0 c1 c2 H).1,(xLn (d,a,b,e) (st+1) cl ln R0 R1 R2 R3 AT c0 c1 c2 H).2.1,(xLn (d,a,b,e) (st+1) cl ln R0 R1 R2 R3 AT c0 c1 c2 H).2.2.1,(xLn (d,a,b,e) (st+1) cl ln R0 R1 R2 R3 AT c0 c1 c2 H).2.2.2.1,(xLn (d,a,b,e) (st+1) cl ln R0 R1 R2 R3 AT c0 c1 c2 H).2.2.2.2.1,(xLn (d,a,b,e) (st+1) cl ln R0 R1 R2 R3 AT c0 c1 c2 H).2.2.2.2.2.1,(xLn (d,a,b,e) (st+1) cl ln R0 R1 R2 R3 AT c0 c1 c2 H).2.2.2.2.2.2.1,(xLn (d,a,b,e) (st+1) cl ln R0 R1 R2 R3 AT c0 c1 c2 H).2.2.2.2.2.2.2.1,(xLn (d,a,b,e) (st+1) cl ln R0 R1 R2 R3 AT c0 c1 c2 H).2.2.2.2.2.2.2.2.1,a0b (xLn (d,a,b,e) (st+1) cl ln R0 R1 R2 R3 AT c0 c1 c2 H).2.2.2.2.2.2.2.2.2)) ?_ rfl;rcases a6V hok with ⟨h1,hA,hBb⟩ | ⟨h1,hA,hBb⟩ | ⟨h1,hA,hBb,hCc⟩ | ⟨h1,hA,hBb⟩ | ⟨h1,hA,hBb,hCc⟩ | ⟨h1,hA,hBb,_⟩ | ⟨h1,hA⟩
 all_goals (simp only at h1;subst h1;try dsimp only at hA;try dsimp only at hBb;try dsimp only at hCc)
 ·exact cnT rfl (bt (b7q hBb) (bt (b7r hBb) (bt (gc3 hBb) (bt (a7M hA) (bt (a7N hA) rfl)))))
 ·exact cnF rfl (bt (v:=((xLn (2,a,b,e) (st+1) cl ln R0 R1 R2 R3 AT c0 c1 c2 H).1,(xLn (2,a,b,e) (st+1) cl ln R0 R1 R2 R3 AT c0 c1 c2 H).2.1,(xLn (2,a,b,e) (st+1) cl ln R0 R1 R2 R3 AT c0 c1 c2 H).2.2.1,(xLn (2,a,b,e) (st+1) cl ln R0 R1 R2 R3 AT c0 c1 c2 H).2.2.2.1,(xLn (2,a,b,e) (st+1) cl ln R0 R1 R2 R3 AT c0 c1 c2 H).2.2.2.2.1,(xLn (2,a,b,e) (st+1) cl ln R0 R1 R2 R3 AT c0 c1 c2 H).2.2.2.2.2.1,(xLn (2,a,b,e) (st+1) cl ln R0 R1 R2 R3 AT c0 c1 c2 H).2.2.2.2.2.2.1,(xLn (2,a,b,e) (st+1) cl ln R0 R1 R2 R3 AT c0 c1 c2 H).2.2.2.2.2.2.2.1,(xLn (2,a,b,e) (st+1) cl ln R0 R1 R2 R3 AT c0 c1 c2 H).2.2.2.2.2.2.2.2.1,a0b (xLn (2,a,b,e) (st+1) cl ln R0 R1 R2 R3 AT c0 c1 c2 H).2.2.2.2.2.2.2.2.2)) (cnT rfl (bt (a7M hBb) (bt (a7N hBb) (bt (gc4 hBb) (bt (b7q hA) (bt (b7r hA) rfl)))))) rfl)
 ·refine cnF rfl (bt (v:=((xLn (3,a,b,e) (st+1) cl ln R0 R1 R2 R3 AT c0 c1 c2 H).1,(xLn (3,a,b,e) (st+1) cl ln R0 R1 R2 R3 AT c0 c1 c2 H).2.1,(xLn (3,a,b,e) (st+1) cl ln R0 R1 R2 R3 AT c0 c1 c2 H).2.2.1,(xLn (3,a,b,e) (st+1) cl ln R0 R1 R2 R3 AT c0 c1 c2 H).2.2.2.1,(xLn (3,a,b,e) (st+1) cl ln R0 R1 R2 R3 AT c0 c1 c2 H).2.2.2.2.1,(xLn (3,a,b,e) (st+1) cl ln R0 R1 R2 R3 AT c0 c1 c2 H).2.2.2.2.2.1,(xLn (3,a,b,e) (st+1) cl ln R0 R1 R2 R3 AT c0 c1 c2 H).2.2.2.2.2.2.1,(xLn (3,a,b,e) (st+1) cl ln R0 R1 R2 R3 AT c0 c1 c2 H).2.2.2.2.2.2.2.1,(xLn (3,a,b,e) (st+1) cl ln R0 R1 R2 R3 AT c0 c1 c2 H).2.2.2.2.2.2.2.2.1,a0b (xLn (3,a,b,e) (st+1) cl ln R0 R1 R2 R3 AT c0 c1 c2 H).2.2.2.2.2.2.2.2.2)) (cnF rfl (bt (v:=((xLn (3,a,b,e) (st+1) cl ln R0 R1 R2 R3 AT c0 c1 c2 H).1,(xLn (3,a,b,e) (st+1) cl ln R0 R1 R2 R3 AT c0 c1 c2 H).2.1,(xLn (3,a,b,e) (st+1) cl ln R0 R1 R2 R3 AT c0 c1 c2 H).2.2.1,(xLn (3,a,b,e) (st+1) cl ln R0 R1 R2 R3 AT c0 c1 c2 H).2.2.2.1,(xLn (3,a,b,e) (st+1) cl ln R0 R1 R2 R3 AT c0 c1 c2 H).2.2.2.2.1,(xLn (3,a,b,e) (st+1) cl ln R0 R1 R2 R3 AT c0 c1 c2 H).2.2.2.2.2.1,(xLn (3,a,b,e) (st+1) cl ln R0 R1 R2 R3 AT c0 c1 c2 H).2.2.2.2.2.2.1,(xLn (3,a,b,e) (st+1) cl ln R0 R1 R2 R3 AT c0 c1 c2 H).2.2.2.2.2.2.2.1,(xLn (3,a,b,e) (st+1) cl ln R0 R1 R2 R3 AT c0 c1 c2 H).2.2.2.2.2.2.2.2.1,a0b (xLn (3,a,b,e) (st+1) cl ln R0 R1 R2 R3 AT c0 c1 c2 H).2.2.2.2.2.2.2.2.2)) (cnT rfl (bt (b8y _ _ _ _ _ _ _ _ _ _ _ _ _ _ _ _ _ _ _ _ _ _ _ _ _ _ hA hBb hCc) ?_)) rfl)) rfl);simp only [xLn];by_cases hq:rg3 c0 c1 c2 a=rg4 R0 R1 R2 R3 b
  ·simp only [if_pos hq];rfl
  simp only [if_neg hq];rfl
 ·exact cnF rfl (bt (v:=((xLn (4,a,b,e) (st+1) cl ln R0 R1 R2 R3 AT c0 c1 c2 H).1,(xLn (4,a,b,e) (st+1) cl ln R0 R1 R2 R3 AT c0 c1 c2 H).2.1,(xLn (4,a,b,e) (st+1) cl ln R0 R1 R2 R3 AT c0 c1 c2 H).2.2.1,(xLn (4,a,b,e) (st+1) cl ln R0 R1 R2 R3 AT c0 c1 c2 H).2.2.2.1,(xLn (4,a,b,e) (st+1) cl ln R0 R1 R2 R3 AT c0 c1 c2 H).2.2.2.2.1,(xLn (4,a,b,e) (st+1) cl ln R0 R1 R2 R3 AT c0 c1 c2 H).2.2.2.2.2.1,(xLn (4,a,b,e) (st+1) cl ln R0 R1 R2 R3 AT c0 c1 c2 H).2.2.2.2.2.2.1,(xLn (4,a,b,e) (st+1) cl ln R0 R1 R2 R3 AT c0 c1 c2 H).2.2.2.2.2.2.2.1,(xLn (4,a,b,e) (st+1) cl ln R0 R1 R2 R3 AT c0 c1 c2 H).2.2.2.2.2.2.2.2.1,a0b (xLn (4,a,b,e) (st+1) cl ln R0 R1 R2 R3 AT c0 c1 c2 H).2.2.2.2.2.2.2.2.2)) (cnF rfl (bt (v:=((xLn (4,a,b,e) (st+1) cl ln R0 R1 R2 R3 AT c0 c1 c2 H).1,(xLn (4,a,b,e) (st+1) cl ln R0 R1 R2 R3 AT c0 c1 c2 H).2.1,(xLn (4,a,b,e) (st+1) cl ln R0 R1 R2 R3 AT c0 c1 c2 H).2.2.1,(xLn (4,a,b,e) (st+1) cl ln R0 R1 R2 R3 AT c0 c1 c2 H).2.2.2.1,(xLn (4,a,b,e) (st+1) cl ln R0 R1 R2 R3 AT c0 c1 c2 H).2.2.2.2.1,(xLn (4,a,b,e) (st+1) cl ln R0 R1 R2 R3 AT c0 c1 c2 H).2.2.2.2.2.1,(xLn (4,a,b,e) (st+1) cl ln R0 R1 R2 R3 AT c0 c1 c2 H).2.2.2.2.2.2.1,(xLn (4,a,b,e) (st+1) cl ln R0 R1 R2 R3 AT c0 c1 c2 H).2.2.2.2.2.2.2.1,(xLn (4,a,b,e) (st+1) cl ln R0 R1 R2 R3 AT c0 c1 c2 H).2.2.2.2.2.2.2.2.1,a0b (xLn (4,a,b,e) (st+1) cl ln R0 R1 R2 R3 AT c0 c1 c2 H).2.2.2.2.2.2.2.2.2)) (cnF rfl (bt (v:=(cl,ln+1,pk a 0 b R0,pk a 1 b R1,pk a 2 b R2,pk a 3 b R3,a0b H)) (cnT rfl (bt (a7M hA) (bt (a7N hA) rfl))) rfl)) rfl)) rfl)
 ·have hs:Ar.std.rem (Ar.std.wrp .i64 (Ar.std.zadd (rg4 R0 R1 R2 R3 b) (rg4 R0 R1 R2 R3 e))) 10=((rg4 R0 R1 R2 R3 b+rg4 R0 R1 R2 R3 e).tmod 10):=by
   have q1:=a7O (i:=b) hB4 hB5 hB6 hB7;have q2:=a7O (i:=e) hB4 hB5 hB6 hB7;simp only [a8t,a0g,a0i];rw [w64 (by have:=q1.1;have:=q2.1;omega) (by have:=q1.2;have:=q2.2;omega)]
  refine cnF rfl (bt (v:=((xLn (5,a,b,e) (st+1) cl ln R0 R1 R2 R3 AT c0 c1 c2 H).1,(xLn (5,a,b,e) (st+1) cl ln R0 R1 R2 R3 AT c0 c1 c2 H).2.1,(xLn (5,a,b,e) (st+1) cl ln R0 R1 R2 R3 AT c0 c1 c2 H).2.2.1,(xLn (5,a,b,e) (st+1) cl ln R0 R1 R2 R3 AT c0 c1 c2 H).2.2.2.1,(xLn (5,a,b,e) (st+1) cl ln R0 R1 R2 R3 AT c0 c1 c2 H).2.2.2.2.1,(xLn (5,a,b,e) (st+1) cl ln R0 R1 R2 R3 AT c0 c1 c2 H).2.2.2.2.2.1,(xLn (5,a,b,e) (st+1) cl ln R0 R1 R2 R3 AT c0 c1 c2 H).2.2.2.2.2.2.1,(xLn (5,a,b,e) (st+1) cl ln R0 R1 R2 R3 AT c0 c1 c2 H).2.2.2.2.2.2.2.1,(xLn (5,a,b,e) (st+1) cl ln R0 R1 R2 R3 AT c0 c1 c2 H).2.2.2.2.2.2.2.2.1,a0b (xLn (5,a,b,e) (st+1) cl ln R0 R1 R2 R3 AT c0 c1 c2 H).2.2.2.2.2.2.2.2.2)) (cnF rfl (bt (v:=((xLn (5,a,b,e) (st+1) cl ln R0 R1 R2 R3 AT c0 c1 c2 H).1,(xLn (5,a,b,e) (st+1) cl ln R0 R1 R2 R3 AT c0 c1 c2 H).2.1,(xLn (5,a,b,e) (st+1) cl ln R0 R1 R2 R3 AT c0 c1 c2 H).2.2.1,(xLn (5,a,b,e) (st+1) cl ln R0 R1 R2 R3 AT c0 c1 c2 H).2.2.2.1,(xLn (5,a,b,e) (st+1) cl ln R0 R1 R2 R3 AT c0 c1 c2 H).2.2.2.2.1,(xLn (5,a,b,e) (st+1) cl ln R0 R1 R2 R3 AT c0 c1 c2 H).2.2.2.2.2.1,(xLn (5,a,b,e) (st+1) cl ln R0 R1 R2 R3 AT c0 c1 c2 H).2.2.2.2.2.2.1,(xLn (5,a,b,e) (st+1) cl ln R0 R1 R2 R3 AT c0 c1 c2 H).2.2.2.2.2.2.2.1,(xLn (5,a,b,e) (st+1) cl ln R0 R1 R2 R3 AT c0 c1 c2 H).2.2.2.2.2.2.2.2.1,a0b (xLn (5,a,b,e) (st+1) cl ln R0 R1 R2 R3 AT c0 c1 c2 H).2.2.2.2.2.2.2.2.2)) (cnF rfl (bt (v:=(cl,ln+1,pk a 0 ((rg4 R0 R1 R2 R3 b+rg4 R0 R1 R2 R3 e).tmod 10) R0,pk a 1 ((rg4 R0 R1 R2 R3 b+rg4 R0 R1 R2 R3 e).tmod 10) R1,pk a 2 ((rg4 R0 R1 R2 R3 b+rg4 R0 R1 R2 R3 e).tmod 10) R2,pk a 3 ((rg4 R0 R1 R2 R3 b+rg4 R0 R1 R2 R3 e).tmod 10) R3,a0b H)) (cnF rfl (bt (v:=(cl,ln+1,pk a 0 ((rg4 R0 R1 R2 R3 b+rg4 R0 R1 R2 R3 e).tmod 10) R0,pk a 1 ((rg4 R0 R1 R2 R3 b+rg4 R0 R1 R2 R3 e).tmod 10) R1,pk a 2 ((rg4 R0 R1 R2 R3 b+rg4 R0 R1 R2 R3 e).tmod 10) R2,pk a 3 ((rg4 R0 R1 R2 R3 b+rg4 R0 R1 R2 R3 e).tmod 10) R3,a0b H)) (cnT rfl (bt (a7M hBb) (bt (a7N hBb) (bt (gc4 hBb) (bt (a7M hCc) (bt (a7N hCc) (bt (gc4 hCc) (bt (v:=()) rfl (bt (a7M hA) (bt (a7N hA) ?_)))))))))) rfl)) rfl)) rfl)) rfl);simp only [hs];rfl
 ·refine cnF rfl (bt (v:=((xLn (6,a,b,e) (st+1) cl ln R0 R1 R2 R3 AT c0 c1 c2 H).1,(xLn (6,a,b,e) (st+1) cl ln R0 R1 R2 R3 AT c0 c1 c2 H).2.1,(xLn (6,a,b,e) (st+1) cl ln R0 R1 R2 R3 AT c0 c1 c2 H).2.2.1,(xLn (6,a,b,e) (st+1) cl ln R0 R1 R2 R3 AT c0 c1 c2 H).2.2.2.1,(xLn (6,a,b,e) (st+1) cl ln R0 R1 R2 R3 AT c0 c1 c2 H).2.2.2.2.1,(xLn (6,a,b,e) (st+1) cl ln R0 R1 R2 R3 AT c0 c1 c2 H).2.2.2.2.2.1,(xLn (6,a,b,e) (st+1) cl ln R0 R1 R2 R3 AT c0 c1 c2 H).2.2.2.2.2.2.1,(xLn (6,a,b,e) (st+1) cl ln R0 R1 R2 R3 AT c0 c1 c2 H).2.2.2.2.2.2.2.1,(xLn (6,a,b,e) (st+1) cl ln R0 R1 R2 R3 AT c0 c1 c2 H).2.2.2.2.2.2.2.2.1,a0b (xLn (6,a,b,e) (st+1) cl ln R0 R1 R2 R3 AT c0 c1 c2 H).2.2.2.2.2.2.2.2.2)) (cnF rfl (bt (v:=((xLn (6,a,b,e) (st+1) cl ln R0 R1 R2 R3 AT c0 c1 c2 H).1,(xLn (6,a,b,e) (st+1) cl ln R0 R1 R2 R3 AT c0 c1 c2 H).2.1,(xLn (6,a,b,e) (st+1) cl ln R0 R1 R2 R3 AT c0 c1 c2 H).2.2.1,(xLn (6,a,b,e) (st+1) cl ln R0 R1 R2 R3 AT c0 c1 c2 H).2.2.2.1,(xLn (6,a,b,e) (st+1) cl ln R0 R1 R2 R3 AT c0 c1 c2 H).2.2.2.2.1,(xLn (6,a,b,e) (st+1) cl ln R0 R1 R2 R3 AT c0 c1 c2 H).2.2.2.2.2.1,(xLn (6,a,b,e) (st+1) cl ln R0 R1 R2 R3 AT c0 c1 c2 H).2.2.2.2.2.2.1,(xLn (6,a,b,e) (st+1) cl ln R0 R1 R2 R3 AT c0 c1 c2 H).2.2.2.2.2.2.2.1,(xLn (6,a,b,e) (st+1) cl ln R0 R1 R2 R3 AT c0 c1 c2 H).2.2.2.2.2.2.2.2.1,a0b (xLn (6,a,b,e) (st+1) cl ln R0 R1 R2 R3 AT c0 c1 c2 H).2.2.2.2.2.2.2.2.2)) (cnF rfl (bt (v:=(cl,(if rg4 R0 R1 R2 R3 a=0 then b else ln+1),R0,R1,R2,R3,a0b H)) (cnF rfl (bt (v:=(cl,(if rg4 R0 R1 R2 R3 a=0 then b else ln+1),R0,R1,R2,R3,a0b H)) (cnF rfl (bt (v:=(cl,(if rg4 R0 R1 R2 R3 a=0 then b else ln+1),a0b H)) (cnT rfl (bt (a7M hA) (bt (a7N hA) (bt (gc4 hA) (bt (v:=if rg4 R0 R1 R2 R3 a=0 then b else ln+1) ?_ rfl))))) rfl)) rfl)) rfl)) rfl)) rfl)
  by_cases hq:rg4 R0 R1 R2 R3 a=0
  ·rw [if_pos hq,a0F];exact cnT (decide_eq_true hq) rfl
  rw [if_neg hq,a0F];exact cnF (decide_eq_false hq) rfl
 obtain ⟨x,hx⟩ : ∃ x,H[AT.toNat]?=some x:=⟨_,zp1 (by omega)⟩;obtain ⟨x1,x2,x3,x4,x5,x6⟩:=x;have hlt:AT.toNat<H.length:=(zp2.1 hx).1;have g1:gc Ar.std a5A (a0b H) (Ar.std.nat AT)=some (x1,x2,x3,x4,x5,x6):=a2U (by simpa using hx);have e1:Ar.std.lset (a0b H) (Ar.std.nat AT) (.agg [.int .i64 x1,.int .i64 x2,.int .i64 x3,.int .i64 x4,.int .i64 x5,.int .i64 (2*(st+1))])=a0b (H.set AT.toNat (x1,x2,x3,x4,x5,2*(st+1))):=a3D (c:=a5A) H AT.toNat (x1,x2,x3,x4,x5,2*(st+1));have g2:gc Ar.std a5A (a0b (H.set AT.toNat (x1,x2,x3,x4,x5,2*(st+1)))) (Ar.std.nat AT)=some (x1,x2,x3,x4,x5,2*(st+1)):=a2U (by simp [hlt]);have e2:Ar.std.lset (a0b (H.set AT.toNat (x1,x2,x3,x4,x5,2*(st+1)))) (Ar.std.nat AT) (.agg [.int .i64 x1,.int .i64 x2,.int .i64 x3,.int .i64 (rg4 R0 R1 R2 R3 a),.int .i64 x5,.int .i64 (2*(st+1))])=a0b (H.set AT.toNat (x1,x2,x3,rg4 R0 R1 R2 R3 a,x5,2*(st+1))):=by
  refine (a3D (c:=a5A) _ AT.toNat (x1,x2,x3,rg4 R0 R1 R2 R3 a,x5,2*(st+1))).trans ?_;rw [List.set_set]
 have hxx:xLn (7,a,b,e) (st+1) cl ln R0 R1 R2 R3 AT c0 c1 c2 H=(cl+1,0,R0,R1,R2,R3,c0,c1,c2,H.set AT.toNat (x1,x2,x3,rg4 R0 R1 R2 R3 a,x5,2*(st+1))):=by
  simp only [xLn,hx];rfl
 rw [hxx];refine cnF rfl (bt (v:=(cl+1,0,R0,R1,R2,R3,c0,c1,c2,a0b (H.set AT.toNat (x1,x2,x3,rg4 R0 R1 R2 R3 a,x5,2*(st+1))))) (cnF rfl (bt (v:=(cl+1,0,R0,R1,R2,R3,c0,c1,c2,a0b (H.set AT.toNat (x1,x2,x3,rg4 R0 R1 R2 R3 a,x5,2*(st+1))))) (cnF rfl (bt (v:=(cl+1,0,R0,R1,R2,R3,a0b (H.set AT.toNat (x1,x2,x3,rg4 R0 R1 R2 R3 a,x5,2*(st+1))))) (cnF rfl (bt (v:=(cl+1,0,R0,R1,R2,R3,a0b (H.set AT.toNat (x1,x2,x3,rg4 R0 R1 R2 R3 a,x5,2*(st+1))))) (cnF rfl (bt (v:=(cl+1,0,a0b (H.set AT.toNat (x1,x2,x3,rg4 R0 R1 R2 R3 a,x5,2*(st+1))))) (cnF rfl (bt (v:=(cl+1,0,a0b (H.set AT.toNat (x1,x2,x3,rg4 R0 R1 R2 R3 a,x5,2*(st+1))))) (cnT rfl (bt (a4I (by simpa using hB1)) (bt (a4I (by simpa using hB2)) (bt (a7M hA) (bt (a7N hA) (bt (gc4 hA) (bt g1 ?_))))))) rfl)) rfl)) rfl)) rfl)) rfl)) rfl);dsimp only;rw [e1];refine bt g2 ?_;dsimp only;rw [e2]
theorem c4F (c:Code) (u:Tab) (mks:List Int) (cl ln r0 r1 r2 r3 at_ y1 y2 y3 y4 y5 y6 y7 c0 c1 c2 st:Int) (h:List Call) (mk:List Int) (inn:Bool) (op:Int) (w:List Int) (ls:List Ln4) (l:Ln4)
  (hu:u[1]?=some w) (hcl:0<=cl/\cl<=1000) (hw:w[cl.toNat]?=some op) (hop:0<=op) (hc:c[op.toNat]?=some ls) (hln:0<=ln/\ln<=1000) (hl:ls[ln.toNat]?=some l) {m:Int} (hok:a2r l m=true)
  (hopen:open_ 1 h=inn) (hln0:inn=false->ln=0) (hh:h.length<1000) (hm:mk.length=h.length) (hat:inn=true->0<=at_/\at_<h.length) (hst:0<=st/\st<=1000) (hmk:mks=[]\/op.toNat<mks.length)
  (d0:dg r0) (d1:dg r1) (d2:dg r2) (d3:dg r3) :
  Z84 Ar.std 1 (a0d mks) (a0o c) (a0r u) y1 y2 y3 y4 y5 y6 y7 cl ln r0 r1 r2 r3 at_ c0 c1 c2 st (a0b h) (a0d mk)=some (a0o c,a0r u,y1,y2,y3,y4,y5,y6,y7,(xLn l (st+1) cl ln (beg inn 1 op st r0 r1 r2 r3 at_ h mk).1 (beg inn 1 op st r0 r1 r2 r3 at_ h mk).2.1 (beg inn 1 op st r0 r1 r2 r3 at_ h mk).2.2.1 (beg inn 1 op st r0 r1 r2 r3 at_ h mk).2.2.2.1 (beg inn 1 op st r0 r1 r2 r3 at_ h mk).2.2.2.2.1 c0 c1 c2 (beg inn 1 op st r0 r1 r2 r3 at_ h mk).2.2.2.2.2.1).1,(xLn l (st+1) cl ln (beg inn 1 op st r0 r1 r2 r3 at_ h mk).1 (beg inn 1 op st r0 r1 r2 r3 at_ h mk).2.1 (beg inn 1 op st r0 r1 r2 r3 at_ h mk).2.2.1 (beg inn 1 op st r0 r1 r2 r3 at_ h mk).2.2.2.1 (beg inn 1 op st r0 r1 r2 r3 at_ h mk).2.2.2.2.1 c0 c1 c2 (beg inn 1 op st r0 r1 r2 r3 at_ h mk).2.2.2.2.2.1).2.1,(xLn l (st+1) cl ln (beg inn 1 op st r0 r1 r2 r3 at_ h mk).1 (beg inn 1 op st r0 r1 r2 r3 at_ h mk).2.1 (beg inn 1 op st r0 r1 r2 r3 at_ h mk).2.2.1 (beg inn 1 op st r0 r1 r2 r3 at_ h mk).2.2.2.1 (beg inn 1 op st r0 r1 r2 r3 at_ h mk).2.2.2.2.1 c0 c1 c2 (beg inn 1 op st r0 r1 r2 r3 at_ h mk).2.2.2.2.2.1).2.2.1,(xLn l (st+1) cl ln (beg inn 1 op st r0 r1 r2 r3 at_ h mk).1 (beg inn 1 op st r0 r1 r2 r3 at_ h mk).2.1 (beg inn 1 op st r0 r1 r2 r3 at_ h mk).2.2.1 (beg inn 1 op st r0 r1 r2 r3 at_ h mk).2.2.2.1 (beg inn 1 op st r0 r1 r2 r3 at_ h mk).2.2.2.2.1 c0 c1 c2 (beg inn 1 op st r0 r1 r2 r3 at_ h mk).2.2.2.2.2.1).2.2.2.1,(xLn l (st+1) cl ln (beg inn 1 op st r0 r1 r2 r3 at_ h mk).1 (beg inn 1 op st r0 r1 r2 r3 at_ h mk).2.1 (beg inn 1 op st r0 r1 r2 r3 at_ h mk).2.2.1 (beg inn 1 op st r0 r1 r2 r3 at_ h mk).2.2.2.1 (beg inn 1 op st r0 r1 r2 r3 at_ h mk).2.2.2.2.1 c0 c1 c2 (beg inn 1 op st r0 r1 r2 r3 at_ h mk).2.2.2.2.2.1).2.2.2.2.1,(xLn l (st+1) cl ln (beg inn 1 op st r0 r1 r2 r3 at_ h mk).1 (beg inn 1 op st r0 r1 r2 r3 at_ h mk).2.1 (beg inn 1 op st r0 r1 r2 r3 at_ h mk).2.2.1 (beg inn 1 op st r0 r1 r2 r3 at_ h mk).2.2.2.1 (beg inn 1 op st r0 r1 r2 r3 at_ h mk).2.2.2.2.1 c0 c1 c2 (beg inn 1 op st r0 r1 r2 r3 at_ h mk).2.2.2.2.2.1).2.2.2.2.2.1,(beg inn 1 op st r0 r1 r2 r3 at_ h mk).2.2.2.2.1,(xLn l (st+1) cl ln (beg inn 1 op st r0 r1 r2 r3 at_ h mk).1 (beg inn 1 op st r0 r1 r2 r3 at_ h mk).2.1 (beg inn 1 op st r0 r1 r2 r3 at_ h mk).2.2.1 (beg inn 1 op st r0 r1 r2 r3 at_ h mk).2.2.2.1 (beg inn 1 op st r0 r1 r2 r3 at_ h mk).2.2.2.2.1 c0 c1 c2 (beg inn 1 op st r0 r1 r2 r3 at_ h mk).2.2.2.2.2.1).2.2.2.2.2.2.1,(xLn l (st+1) cl ln (beg inn 1 op st r0 r1 r2 r3 at_ h mk).1 (beg inn 1 op st r0 r1 r2 r3 at_ h mk).2.1 (beg inn 1 op st r0 r1 r2 r3 at_ h mk).2.2.1 (beg inn 1 op st r0 r1 r2 r3 at_ h mk).2.2.2.1 (beg inn 1 op st r0 r1 r2 r3 at_ h mk).2.2.2.2.1 c0 c1 c2 (beg inn 1 op st r0 r1 r2 r3 at_ h mk).2.2.2.2.2.1).2.2.2.2.2.2.2.1,(xLn l (st+1) cl ln (beg inn 1 op st r0 r1 r2 r3 at_ h mk).1 (beg inn 1 op st r0 r1 r2 r3 at_ h mk).2.1 (beg inn 1 op st r0 r1 r2 r3 at_ h mk).2.2.1 (beg inn 1 op st r0 r1 r2 r3 at_ h mk).2.2.2.1 (beg inn 1 op st r0 r1 r2 r3 at_ h mk).2.2.2.2.1 c0 c1 c2 (beg inn 1 op st r0 r1 r2 r3 at_ h mk).2.2.2.2.2.1).2.2.2.2.2.2.2.2.1,st+1,a0b (xLn l (st+1) cl ln (beg inn 1 op st r0 r1 r2 r3 at_ h mk).1 (beg inn 1 op st r0 r1 r2 r3 at_ h mk).2.1 (beg inn 1 op st r0 r1 r2 r3 at_ h mk).2.2.1 (beg inn 1 op st r0 r1 r2 r3 at_ h mk).2.2.2.1 (beg inn 1 op st r0 r1 r2 r3 at_ h mk).2.2.2.2.1 c0 c1 c2 (beg inn 1 op st r0 r1 r2 r3 at_ h mk).2.2.2.2.2.1).2.2.2.2.2.2.2.2.2,a0d (mkd mks op ln (beg inn 1 op st r0 r1 r2 r3 at_ h mk).2.2.2.2.1 (st+1) (beg inn 1 op st r0 r1 r2 r3 at_ h mk).2.2.2.2.2.2)):=by
 have hLg:h.length<Lg:=by show h.length<9223372036854775808;omega
 have hwl:Ar.std.wrp .i64 (Ar.std.zadd ln 1)=ln+1:=by simp only [a0g,a0i];exact w64 (by omega) (by omega)
 have hwc:Ar.std.wrp .i64 (Ar.std.zadd cl 1)=cl+1:=by simp only [a0g,a0i];exact w64 (by omega) (by omega)
 have hws:Ar.std.wrp .i64 (Ar.std.zadd st 1)=st+1:=by simp only [a0g,a0i];exact w64 (by omega) (by omega)
 have hw2:Ar.std.wrp .i64 (Ar.std.zmul 2 (st+1))=2*(st+1):=by simp only [a0g,a8s];exact w64 (by omega) (by omega)
 have hB:0<=(beg inn 1 op st r0 r1 r2 r3 at_ h mk).2.2.2.2.1/\(beg inn 1 op st r0 r1 r2 r3 at_ h mk).2.2.2.2.1<(beg inn 1 op st r0 r1 r2 r3 at_ h mk).2.2.2.2.2.1.length/\(beg inn 1 op st r0 r1 r2 r3 at_ h mk).2.2.2.2.2.2.length=(beg inn 1 op st r0 r1 r2 r3 at_ h mk).2.2.2.2.2.1.length/\dg (beg inn 1 op st r0 r1 r2 r3 at_ h mk).1/\dg (beg inn 1 op st r0 r1 r2 r3 at_ h mk).2.1/\dg (beg inn 1 op st r0 r1 r2 r3 at_ h mk).2.2.1/\dg (beg inn 1 op st r0 r1 r2 r3 at_ h mk).2.2.2.1:=by
  cases inn with
  | true=>exact ⟨(hat rfl).1,(hat rfl).2,hm,d0,d1,d2,d3⟩
  | false=>refine ⟨?_,?_,?_,?_,?_,?_,?_⟩ <;> simp [beg,dg,hm] <;> omega
 unfold Z84;refine cnF rfl (cnT rfl ?_);refine bt (a1O (by decide) (by simpa using hu)) ?_;refine bt (a1R hcl.1 hw) ?_;refine bt (v := !inn) (by rw [b4o _ _ _ _ _ _ _ _ _ _ _ _ _ _ _ _ _ _ _ _ _ _ hLg _,hopen,a0F];exact b1s hln0) ?_;refine bt (b7s inn 1 op st r0 r1 r2 r3 at_ h mk hh (by omega) hst) ?_;refine bt (b1t mks op ln hop hmk) ?_;obtain ⟨hB1,hB2,hB3,hB4,hB5,hB6,hB7⟩:=hB;refine bt (b7t mks op ln (beg inn 1 op st r0 r1 r2 r3 at_ h mk).2.2.2.2.1 st (beg inn 1 op st r0 r1 r2 r3 at_ h mk).2.2.2.2.2.2 hB1 (by rw [hB3];exact hB2) hst) ?_;refine bt (a9E hop hc) ?_;obtain ⟨d,a,b,e⟩:=l;refine bt (a1R hln.1 hl) ?_;dsimp only;rw [hwl,hws,hwc,hw2];generalize (beg inn 1 op st r0 r1 r2 r3 at_ h mk)=BB at hB1 hB2 hB3 hB4 hB5 hB6 hB7 ⊢;obtain ⟨R0,R1,R2,R3,AT,H,MK⟩:=BB;dsimp only at hB1 hB2 hB3 hB4 hB5 hB6 hB7 ⊢;refine bt (v:=((xLn (d,a,b,e) (st+1) cl ln R0 R1 R2 R3 AT c0 c1 c2 H).1,(xLn (d,a,b,e) (st+1) cl ln R0 R1 R2 R3 AT c0 c1 c2 H).2.1,(xLn (d,a,b,e) (st+1) cl ln R0 R1 R2 R3 AT c0 c1 c2 H).2.2.1,(xLn (d,a,b,e) (st+1) cl ln R0 R1 R2 R3 AT c0 c1 c2 H).2.2.2.1,(xLn (d,a,b,e) (st+1) cl ln R0 R1 R2 R3 AT c0 c1 c2 H).2.2.2.2.1,(xLn (d,a,b,e) (st+1) cl ln R0 R1 R2 R3 AT c0 c1 c2 H).2.2.2.2.2.1,(xLn (d,a,b,e) (st+1) cl ln R0 R1 R2 R3 AT c0 c1 c2 H).2.2.2.2.2.2.1,(xLn (d,a,b,e) (st+1) cl ln R0 R1 R2 R3 AT c0 c1 c2 H).2.2.2.2.2.2.2.1,(xLn (d,a,b,e) (st+1) cl ln R0 R1 R2 R3 AT c0 c1 c2 H).2.2.2.2.2.2.2.2.1,a0b (xLn (d,a,b,e) (st+1) cl ln R0 R1 R2 R3 AT c0 c1 c2 H).2.2.2.2.2.2.2.2.2)) ?_ rfl;rcases a6V hok with ⟨h1,hA,hBb⟩ | ⟨h1,hA,hBb⟩ | ⟨h1,hA,hBb,hCc⟩ | ⟨h1,hA,hBb⟩ | ⟨h1,hA,hBb,hCc⟩ | ⟨h1,hA,hBb,_⟩ | ⟨h1,hA⟩
 all_goals (simp only at h1;subst h1;try dsimp only at hA;try dsimp only at hBb;try dsimp only at hCc)
 ·exact cnT rfl (bt (b7q hBb) (bt (b7r hBb) (bt (gc3 hBb) (bt (a7M hA) (bt (a7N hA) rfl)))))
 ·exact cnF rfl (bt (v:=((xLn (2,a,b,e) (st+1) cl ln R0 R1 R2 R3 AT c0 c1 c2 H).1,(xLn (2,a,b,e) (st+1) cl ln R0 R1 R2 R3 AT c0 c1 c2 H).2.1,(xLn (2,a,b,e) (st+1) cl ln R0 R1 R2 R3 AT c0 c1 c2 H).2.2.1,(xLn (2,a,b,e) (st+1) cl ln R0 R1 R2 R3 AT c0 c1 c2 H).2.2.2.1,(xLn (2,a,b,e) (st+1) cl ln R0 R1 R2 R3 AT c0 c1 c2 H).2.2.2.2.1,(xLn (2,a,b,e) (st+1) cl ln R0 R1 R2 R3 AT c0 c1 c2 H).2.2.2.2.2.1,(xLn (2,a,b,e) (st+1) cl ln R0 R1 R2 R3 AT c0 c1 c2 H).2.2.2.2.2.2.1,(xLn (2,a,b,e) (st+1) cl ln R0 R1 R2 R3 AT c0 c1 c2 H).2.2.2.2.2.2.2.1,(xLn (2,a,b,e) (st+1) cl ln R0 R1 R2 R3 AT c0 c1 c2 H).2.2.2.2.2.2.2.2.1,a0b (xLn (2,a,b,e) (st+1) cl ln R0 R1 R2 R3 AT c0 c1 c2 H).2.2.2.2.2.2.2.2.2)) (cnT rfl (bt (a7M hBb) (bt (a7N hBb) (bt (gc4 hBb) (bt (b7q hA) (bt (b7r hA) rfl)))))) rfl)
 ·refine cnF rfl (bt (v:=((xLn (3,a,b,e) (st+1) cl ln R0 R1 R2 R3 AT c0 c1 c2 H).1,(xLn (3,a,b,e) (st+1) cl ln R0 R1 R2 R3 AT c0 c1 c2 H).2.1,(xLn (3,a,b,e) (st+1) cl ln R0 R1 R2 R3 AT c0 c1 c2 H).2.2.1,(xLn (3,a,b,e) (st+1) cl ln R0 R1 R2 R3 AT c0 c1 c2 H).2.2.2.1,(xLn (3,a,b,e) (st+1) cl ln R0 R1 R2 R3 AT c0 c1 c2 H).2.2.2.2.1,(xLn (3,a,b,e) (st+1) cl ln R0 R1 R2 R3 AT c0 c1 c2 H).2.2.2.2.2.1,(xLn (3,a,b,e) (st+1) cl ln R0 R1 R2 R3 AT c0 c1 c2 H).2.2.2.2.2.2.1,(xLn (3,a,b,e) (st+1) cl ln R0 R1 R2 R3 AT c0 c1 c2 H).2.2.2.2.2.2.2.1,(xLn (3,a,b,e) (st+1) cl ln R0 R1 R2 R3 AT c0 c1 c2 H).2.2.2.2.2.2.2.2.1,a0b (xLn (3,a,b,e) (st+1) cl ln R0 R1 R2 R3 AT c0 c1 c2 H).2.2.2.2.2.2.2.2.2)) (cnF rfl (bt (v:=((xLn (3,a,b,e) (st+1) cl ln R0 R1 R2 R3 AT c0 c1 c2 H).1,(xLn (3,a,b,e) (st+1) cl ln R0 R1 R2 R3 AT c0 c1 c2 H).2.1,(xLn (3,a,b,e) (st+1) cl ln R0 R1 R2 R3 AT c0 c1 c2 H).2.2.1,(xLn (3,a,b,e) (st+1) cl ln R0 R1 R2 R3 AT c0 c1 c2 H).2.2.2.1,(xLn (3,a,b,e) (st+1) cl ln R0 R1 R2 R3 AT c0 c1 c2 H).2.2.2.2.1,(xLn (3,a,b,e) (st+1) cl ln R0 R1 R2 R3 AT c0 c1 c2 H).2.2.2.2.2.1,(xLn (3,a,b,e) (st+1) cl ln R0 R1 R2 R3 AT c0 c1 c2 H).2.2.2.2.2.2.1,(xLn (3,a,b,e) (st+1) cl ln R0 R1 R2 R3 AT c0 c1 c2 H).2.2.2.2.2.2.2.1,(xLn (3,a,b,e) (st+1) cl ln R0 R1 R2 R3 AT c0 c1 c2 H).2.2.2.2.2.2.2.2.1,a0b (xLn (3,a,b,e) (st+1) cl ln R0 R1 R2 R3 AT c0 c1 c2 H).2.2.2.2.2.2.2.2.2)) (cnT rfl (bt (b6e _ _ _ _ _ _ _ _ _ _ _ _ _ _ _ _ _ _ _ _ _ _ _ _ _ _ hA hBb hCc) ?_)) rfl)) rfl);simp only [xLn];by_cases hq:rg3 c0 c1 c2 a=rg4 R0 R1 R2 R3 b
  ·simp only [if_pos hq];rfl
  simp only [if_neg hq];rfl
 ·exact cnF rfl (bt (v:=((xLn (4,a,b,e) (st+1) cl ln R0 R1 R2 R3 AT c0 c1 c2 H).1,(xLn (4,a,b,e) (st+1) cl ln R0 R1 R2 R3 AT c0 c1 c2 H).2.1,(xLn (4,a,b,e) (st+1) cl ln R0 R1 R2 R3 AT c0 c1 c2 H).2.2.1,(xLn (4,a,b,e) (st+1) cl ln R0 R1 R2 R3 AT c0 c1 c2 H).2.2.2.1,(xLn (4,a,b,e) (st+1) cl ln R0 R1 R2 R3 AT c0 c1 c2 H).2.2.2.2.1,(xLn (4,a,b,e) (st+1) cl ln R0 R1 R2 R3 AT c0 c1 c2 H).2.2.2.2.2.1,(xLn (4,a,b,e) (st+1) cl ln R0 R1 R2 R3 AT c0 c1 c2 H).2.2.2.2.2.2.1,(xLn (4,a,b,e) (st+1) cl ln R0 R1 R2 R3 AT c0 c1 c2 H).2.2.2.2.2.2.2.1,(xLn (4,a,b,e) (st+1) cl ln R0 R1 R2 R3 AT c0 c1 c2 H).2.2.2.2.2.2.2.2.1,a0b (xLn (4,a,b,e) (st+1) cl ln R0 R1 R2 R3 AT c0 c1 c2 H).2.2.2.2.2.2.2.2.2)) (cnF rfl (bt (v:=((xLn (4,a,b,e) (st+1) cl ln R0 R1 R2 R3 AT c0 c1 c2 H).1,(xLn (4,a,b,e) (st+1) cl ln R0 R1 R2 R3 AT c0 c1 c2 H).2.1,(xLn (4,a,b,e) (st+1) cl ln R0 R1 R2 R3 AT c0 c1 c2 H).2.2.1,(xLn (4,a,b,e) (st+1) cl ln R0 R1 R2 R3 AT c0 c1 c2 H).2.2.2.1,(xLn (4,a,b,e) (st+1) cl ln R0 R1 R2 R3 AT c0 c1 c2 H).2.2.2.2.1,(xLn (4,a,b,e) (st+1) cl ln R0 R1 R2 R3 AT c0 c1 c2 H).2.2.2.2.2.1,(xLn (4,a,b,e) (st+1) cl ln R0 R1 R2 R3 AT c0 c1 c2 H).2.2.2.2.2.2.1,(xLn (4,a,b,e) (st+1) cl ln R0 R1 R2 R3 AT c0 c1 c2 H).2.2.2.2.2.2.2.1,(xLn (4,a,b,e) (st+1) cl ln R0 R1 R2 R3 AT c0 c1 c2 H).2.2.2.2.2.2.2.2.1,a0b (xLn (4,a,b,e) (st+1) cl ln R0 R1 R2 R3 AT c0 c1 c2 H).2.2.2.2.2.2.2.2.2)) (cnF rfl (bt (v:=(cl,ln+1,pk a 0 b R0,pk a 1 b R1,pk a 2 b R2,pk a 3 b R3,a0b H)) (cnT rfl (bt (a7M hA) (bt (a7N hA) rfl))) rfl)) rfl)) rfl)
 ·have hs:Ar.std.rem (Ar.std.wrp .i64 (Ar.std.zadd (rg4 R0 R1 R2 R3 b) (rg4 R0 R1 R2 R3 e))) 10=((rg4 R0 R1 R2 R3 b+rg4 R0 R1 R2 R3 e).tmod 10):=by
   have q1:=a7O (i:=b) hB4 hB5 hB6 hB7;have q2:=a7O (i:=e) hB4 hB5 hB6 hB7;simp only [a8t,a0g,a0i];rw [w64 (by have:=q1.1;have:=q2.1;omega) (by have:=q1.2;have:=q2.2;omega)]
  refine cnF rfl (bt (v:=((xLn (5,a,b,e) (st+1) cl ln R0 R1 R2 R3 AT c0 c1 c2 H).1,(xLn (5,a,b,e) (st+1) cl ln R0 R1 R2 R3 AT c0 c1 c2 H).2.1,(xLn (5,a,b,e) (st+1) cl ln R0 R1 R2 R3 AT c0 c1 c2 H).2.2.1,(xLn (5,a,b,e) (st+1) cl ln R0 R1 R2 R3 AT c0 c1 c2 H).2.2.2.1,(xLn (5,a,b,e) (st+1) cl ln R0 R1 R2 R3 AT c0 c1 c2 H).2.2.2.2.1,(xLn (5,a,b,e) (st+1) cl ln R0 R1 R2 R3 AT c0 c1 c2 H).2.2.2.2.2.1,(xLn (5,a,b,e) (st+1) cl ln R0 R1 R2 R3 AT c0 c1 c2 H).2.2.2.2.2.2.1,(xLn (5,a,b,e) (st+1) cl ln R0 R1 R2 R3 AT c0 c1 c2 H).2.2.2.2.2.2.2.1,(xLn (5,a,b,e) (st+1) cl ln R0 R1 R2 R3 AT c0 c1 c2 H).2.2.2.2.2.2.2.2.1,a0b (xLn (5,a,b,e) (st+1) cl ln R0 R1 R2 R3 AT c0 c1 c2 H).2.2.2.2.2.2.2.2.2)) (cnF rfl (bt (v:=((xLn (5,a,b,e) (st+1) cl ln R0 R1 R2 R3 AT c0 c1 c2 H).1,(xLn (5,a,b,e) (st+1) cl ln R0 R1 R2 R3 AT c0 c1 c2 H).2.1,(xLn (5,a,b,e) (st+1) cl ln R0 R1 R2 R3 AT c0 c1 c2 H).2.2.1,(xLn (5,a,b,e) (st+1) cl ln R0 R1 R2 R3 AT c0 c1 c2 H).2.2.2.1,(xLn (5,a,b,e) (st+1) cl ln R0 R1 R2 R3 AT c0 c1 c2 H).2.2.2.2.1,(xLn (5,a,b,e) (st+1) cl ln R0 R1 R2 R3 AT c0 c1 c2 H).2.2.2.2.2.1,(xLn (5,a,b,e) (st+1) cl ln R0 R1 R2 R3 AT c0 c1 c2 H).2.2.2.2.2.2.1,(xLn (5,a,b,e) (st+1) cl ln R0 R1 R2 R3 AT c0 c1 c2 H).2.2.2.2.2.2.2.1,(xLn (5,a,b,e) (st+1) cl ln R0 R1 R2 R3 AT c0 c1 c2 H).2.2.2.2.2.2.2.2.1,a0b (xLn (5,a,b,e) (st+1) cl ln R0 R1 R2 R3 AT c0 c1 c2 H).2.2.2.2.2.2.2.2.2)) (cnF rfl (bt (v:=(cl,ln+1,pk a 0 ((rg4 R0 R1 R2 R3 b+rg4 R0 R1 R2 R3 e).tmod 10) R0,pk a 1 ((rg4 R0 R1 R2 R3 b+rg4 R0 R1 R2 R3 e).tmod 10) R1,pk a 2 ((rg4 R0 R1 R2 R3 b+rg4 R0 R1 R2 R3 e).tmod 10) R2,pk a 3 ((rg4 R0 R1 R2 R3 b+rg4 R0 R1 R2 R3 e).tmod 10) R3,a0b H)) (cnF rfl (bt (v:=(cl,ln+1,pk a 0 ((rg4 R0 R1 R2 R3 b+rg4 R0 R1 R2 R3 e).tmod 10) R0,pk a 1 ((rg4 R0 R1 R2 R3 b+rg4 R0 R1 R2 R3 e).tmod 10) R1,pk a 2 ((rg4 R0 R1 R2 R3 b+rg4 R0 R1 R2 R3 e).tmod 10) R2,pk a 3 ((rg4 R0 R1 R2 R3 b+rg4 R0 R1 R2 R3 e).tmod 10) R3,a0b H)) (cnT rfl (bt (a7M hBb) (bt (a7N hBb) (bt (gc4 hBb) (bt (a7M hCc) (bt (a7N hCc) (bt (gc4 hCc) (bt (v:=()) rfl (bt (a7M hA) (bt (a7N hA) ?_)))))))))) rfl)) rfl)) rfl)) rfl);simp only [hs];rfl
 ·refine cnF rfl (bt (v:=((xLn (6,a,b,e) (st+1) cl ln R0 R1 R2 R3 AT c0 c1 c2 H).1,(xLn (6,a,b,e) (st+1) cl ln R0 R1 R2 R3 AT c0 c1 c2 H).2.1,(xLn (6,a,b,e) (st+1) cl ln R0 R1 R2 R3 AT c0 c1 c2 H).2.2.1,(xLn (6,a,b,e) (st+1) cl ln R0 R1 R2 R3 AT c0 c1 c2 H).2.2.2.1,(xLn (6,a,b,e) (st+1) cl ln R0 R1 R2 R3 AT c0 c1 c2 H).2.2.2.2.1,(xLn (6,a,b,e) (st+1) cl ln R0 R1 R2 R3 AT c0 c1 c2 H).2.2.2.2.2.1,(xLn (6,a,b,e) (st+1) cl ln R0 R1 R2 R3 AT c0 c1 c2 H).2.2.2.2.2.2.1,(xLn (6,a,b,e) (st+1) cl ln R0 R1 R2 R3 AT c0 c1 c2 H).2.2.2.2.2.2.2.1,(xLn (6,a,b,e) (st+1) cl ln R0 R1 R2 R3 AT c0 c1 c2 H).2.2.2.2.2.2.2.2.1,a0b (xLn (6,a,b,e) (st+1) cl ln R0 R1 R2 R3 AT c0 c1 c2 H).2.2.2.2.2.2.2.2.2)) (cnF rfl (bt (v:=((xLn (6,a,b,e) (st+1) cl ln R0 R1 R2 R3 AT c0 c1 c2 H).1,(xLn (6,a,b,e) (st+1) cl ln R0 R1 R2 R3 AT c0 c1 c2 H).2.1,(xLn (6,a,b,e) (st+1) cl ln R0 R1 R2 R3 AT c0 c1 c2 H).2.2.1,(xLn (6,a,b,e) (st+1) cl ln R0 R1 R2 R3 AT c0 c1 c2 H).2.2.2.1,(xLn (6,a,b,e) (st+1) cl ln R0 R1 R2 R3 AT c0 c1 c2 H).2.2.2.2.1,(xLn (6,a,b,e) (st+1) cl ln R0 R1 R2 R3 AT c0 c1 c2 H).2.2.2.2.2.1,(xLn (6,a,b,e) (st+1) cl ln R0 R1 R2 R3 AT c0 c1 c2 H).2.2.2.2.2.2.1,(xLn (6,a,b,e) (st+1) cl ln R0 R1 R2 R3 AT c0 c1 c2 H).2.2.2.2.2.2.2.1,(xLn (6,a,b,e) (st+1) cl ln R0 R1 R2 R3 AT c0 c1 c2 H).2.2.2.2.2.2.2.2.1,a0b (xLn (6,a,b,e) (st+1) cl ln R0 R1 R2 R3 AT c0 c1 c2 H).2.2.2.2.2.2.2.2.2)) (cnF rfl (bt (v:=(cl,(if rg4 R0 R1 R2 R3 a=0 then b else ln+1),R0,R1,R2,R3,a0b H)) (cnF rfl (bt (v:=(cl,(if rg4 R0 R1 R2 R3 a=0 then b else ln+1),R0,R1,R2,R3,a0b H)) (cnF rfl (bt (v:=(cl,(if rg4 R0 R1 R2 R3 a=0 then b else ln+1),a0b H)) (cnT rfl (bt (a7M hA) (bt (a7N hA) (bt (gc4 hA) (bt (v:=if rg4 R0 R1 R2 R3 a=0 then b else ln+1) ?_ rfl))))) rfl)) rfl)) rfl)) rfl)) rfl)
  by_cases hq:rg4 R0 R1 R2 R3 a=0
  ·rw [if_pos hq,a0F];exact cnT (decide_eq_true hq) rfl
  rw [if_neg hq,a0F];exact cnF (decide_eq_false hq) rfl
 obtain ⟨x,hx⟩ : ∃ x,H[AT.toNat]?=some x:=⟨_,zp1 (by omega)⟩;obtain ⟨x1,x2,x3,x4,x5,x6⟩:=x;have hlt:AT.toNat<H.length:=(zp2.1 hx).1;have g1:gc Ar.std a5A (a0b H) (Ar.std.nat AT)=some (x1,x2,x3,x4,x5,x6):=a2U (by simpa using hx);have e1:Ar.std.lset (a0b H) (Ar.std.nat AT) (.agg [.int .i64 x1,.int .i64 x2,.int .i64 x3,.int .i64 x4,.int .i64 x5,.int .i64 (2*(st+1))])=a0b (H.set AT.toNat (x1,x2,x3,x4,x5,2*(st+1))):=a3D (c:=a5A) H AT.toNat (x1,x2,x3,x4,x5,2*(st+1));have g2:gc Ar.std a5A (a0b (H.set AT.toNat (x1,x2,x3,x4,x5,2*(st+1)))) (Ar.std.nat AT)=some (x1,x2,x3,x4,x5,2*(st+1)):=a2U (by simp [hlt]);have e2:Ar.std.lset (a0b (H.set AT.toNat (x1,x2,x3,x4,x5,2*(st+1)))) (Ar.std.nat AT) (.agg [.int .i64 x1,.int .i64 x2,.int .i64 x3,.int .i64 (rg4 R0 R1 R2 R3 a),.int .i64 x5,.int .i64 (2*(st+1))])=a0b (H.set AT.toNat (x1,x2,x3,rg4 R0 R1 R2 R3 a,x5,2*(st+1))):=by
  refine (a3D (c:=a5A) _ AT.toNat (x1,x2,x3,rg4 R0 R1 R2 R3 a,x5,2*(st+1))).trans ?_;rw [List.set_set]
 have hxx:xLn (7,a,b,e) (st+1) cl ln R0 R1 R2 R3 AT c0 c1 c2 H=(cl+1,0,R0,R1,R2,R3,c0,c1,c2,H.set AT.toNat (x1,x2,x3,rg4 R0 R1 R2 R3 a,x5,2*(st+1))):=by
  simp only [xLn,hx];rfl
 rw [hxx];refine cnF rfl (bt (v:=(cl+1,0,R0,R1,R2,R3,c0,c1,c2,a0b (H.set AT.toNat (x1,x2,x3,rg4 R0 R1 R2 R3 a,x5,2*(st+1))))) (cnF rfl (bt (v:=(cl+1,0,R0,R1,R2,R3,c0,c1,c2,a0b (H.set AT.toNat (x1,x2,x3,rg4 R0 R1 R2 R3 a,x5,2*(st+1))))) (cnF rfl (bt (v:=(cl+1,0,R0,R1,R2,R3,a0b (H.set AT.toNat (x1,x2,x3,rg4 R0 R1 R2 R3 a,x5,2*(st+1))))) (cnF rfl (bt (v:=(cl+1,0,R0,R1,R2,R3,a0b (H.set AT.toNat (x1,x2,x3,rg4 R0 R1 R2 R3 a,x5,2*(st+1))))) (cnF rfl (bt (v:=(cl+1,0,a0b (H.set AT.toNat (x1,x2,x3,rg4 R0 R1 R2 R3 a,x5,2*(st+1))))) (cnF rfl (bt (v:=(cl+1,0,a0b (H.set AT.toNat (x1,x2,x3,rg4 R0 R1 R2 R3 a,x5,2*(st+1))))) (cnT rfl (bt (a4I (by simpa using hB1)) (bt (a4I (by simpa using hB2)) (bt (a7M hA) (bt (a7N hA) (bt (gc4 hA) (bt g1 ?_))))))) rfl)) rfl)) rfl)) rfl)) rfl)) rfl);dsimp only;rw [e1];refine bt g2 ?_;dsimp only;rw [e2]
abbrev H8:=Int×Int×Bool×Int×Int×Int×Int×Int
structure Hd where
 cl:Int
 ln:Int
 r0:Int
 r1:Int
 r2:Int
 r3:Int
 at_:Int
 inn:Bool
structure Mc where
 a:Hd
 b:Hd
 c0:Int
 c1:Int
 c2:Int
 st:Int
 h:List Call
 ms:List Int
def hd0:Hd:=⟨0,0,0,0,0,0,0,false⟩
def mc0:Mc:=⟨hd0,hd0,0,0,0,0,[],[]⟩
def Mc.hd (m:Mc) (t:Nat):Hd:=if t=0 then m.a else m.b
def a3p (u:Tab) (t:Nat) (cl:Int):Int:=(u.getD t []).getD cl.toNat 0
def c5o (c:Code) (op ln:Int):Ln4:=(c.getD op.toNat []).getD ln.toNat (0,0,0,0)
def stB (u:Tab) (t:Nat) (m:Mc):Int×Int×Int×Int×Int×List Call×List Int :=
 beg (m.hd t).inn t (a3p u t (m.hd t).cl) m.st (m.hd t).r0 (m.hd t).r1 (m.hd t).r2 (m.hd t).r3 (m.hd t).at_ m.h m.ms
def stL (c:Code) (u:Tab) (t:Nat) (m:Mc):Ln4:=c5o c (a3p u t (m.hd t).cl) (m.hd t).ln
def stX (c:Code) (u:Tab) (t:Nat) (m:Mc):Xs :=
 xLn (stL c u t m) (m.st+1) (m.hd t).cl (m.hd t).ln (stB u t m).1 (stB u t m).2.1 (stB u t m).2.2.1 (stB u t m).2.2.2.1 (stB u t m).2.2.2.2.1 m.c0 m.c1 m.c2 (stB u t m).2.2.2.2.2.1
def stH (c:Code) (u:Tab) (t:Nat) (m:Mc):Hd :=
 ⟨(stX c u t m).1,(stX c u t m).2.1,(stX c u t m).2.2.1,(stX c u t m).2.2.2.1,(stX c u t m).2.2.2.2.1,(stX c u t m).2.2.2.2.2.1,(stB u t m).2.2.2.2.1,!decide ((stL c u t m).1=7)⟩
def a0j (c:Code) (u:Tab) (mks:List Int) (t:Nat) (m:Mc):Mc :=
 { a:=if t=0 then stH c u t m else m.a,b:=if t=0 then m.b else stH c u t m
   c0:=(stX c u t m).2.2.2.2.2.2.1,c1:=(stX c u t m).2.2.2.2.2.2.2.1,c2:=(stX c u t m).2.2.2.2.2.2.2.2.1,st:=m.st+1
   h:=(stX c u t m).2.2.2.2.2.2.2.2.2,ms:=mkd mks (a3p u t (m.hd t).cl) (m.hd t).ln (stB u t m).2.2.2.2.1 (m.st+1) (stB u t m).2.2.2.2.2.2 }
def a3b (u:Tab) (t:Int) (m:Mc):Bool:=btw 0 t (u.length-1)&&decide ((m.hd t.toNat).cl<((u.getD t.toNat []).length:Int))
structure HInv (c:Code) (u:Tab) (t:Nat) (d:Hd) (h:List Call):Prop where
 cl0:0<=d.cl
 reg:dg d.r0/\dg d.r1/\dg d.r2/\dg d.r3
 idle:d.inn=false->d.ln=0
 busy:d.inn=true->0<=d.at_/\d.cl<((u.getD t []).length:Int)/\0<=d.ln/\d.ln<((c.getD (a3p u t d.cl).toNat []).length:Int) /\ ∃ x,h[d.at_.toNat]?=some x/\x.1=t/\x.2.2.1=a3p u t d.cl/\x.2.2.2.2.2=0
 uniq : ∀ (i:Nat) (x:Call),h[i]?=some x->x.1=t->x.2.2.2.2.2=0->d.inn=true/\d.at_=i
structure MInv (c:Code) (u:Tab) (m:Mc):Prop where
 a:HInv c u 0 m.a m.h
 b:HInv c u 1 m.b m.h
 cel:dg m.c0/\dg m.c1/\dg m.c2
 ms:m.ms.length=m.h.length
 st:(m.h.length:Int)<=m.st
theorem MInv.hd {c:Code} {u:Tab} {m:Mc} (h:MInv c u m) {t:Nat} (ht:t<2):HInv c u t (m.hd t) m.h:=by
 match t,ht with
 | 0,_=>exact h.a
 | 1,_=>exact h.b
theorem c1b (c:Code) (u:Tab) (t:Nat):HInv c u t hd0 [] :=
 ⟨Int.le_refl _,⟨by simp [dg,hd0],by simp [dg,hd0],by simp [dg,hd0],by simp [dg,hd0]⟩,fun _=>rfl,(fun h=>by cases h),(fun i x h=>by simp at h)⟩
theorem a7v (c:Code) (u:Tab):MInv c u mc0 :=
 ⟨c1b c u 0,c1b c u 1,⟨by simp [dg,mc0],by simp [dg,mc0],by simp [dg,mc0]⟩,rfl,by simp [mc0]⟩
theorem HInv.open_eq {c:Code} {u:Tab} {t:Nat} {d:Hd} {h:List Call} (H:HInv c u t d h):open_ t h=d.inn:=by
 rw [Bool.eq_iff_iff];unfold open_;rw [List.any_eq_true];constructor
 ·rintro ⟨x,hx,hp⟩;obtain ⟨i,hi,rfl⟩:=List.mem_iff_getElem.1 hx;simp only [zp4,decide_eq_true_eq] at hp;exact (H.uniq i _ (zp1 hi) hp.1 hp.2).1
 intro hi;obtain ⟨_,_,_,_,x,hx,h1,_,h2⟩:=H.busy hi;exact ⟨x,List.mem_of_getElem? hx,by simp [h1,h2]⟩
theorem HInv.frame {c:Code} {u:Tab} {t:Nat} {d:Hd} {h h':List Call} (H:HInv c u t d h) (hk : ∀ (i:Nat) (x:Call),h[i]?=some x->x.1=t->h'[i]?=some x) (hn : ∀ (i:Nat) (x:Call),h'[i]?=some x->x.1=t->h[i]?=some x):HInv c u t d h' :=
 ⟨H.cl0,H.reg,H.idle,fun hi=>by
  obtain ⟨h1,h2,h3,h4,x,hx,hxt,h5⟩:=H.busy hi;exact ⟨h1,h2,h3,h4,x,hk _ x hx hxt,hxt,h5⟩,fun i x hx hxt hxo=>H.uniq i x (hn i x hx hxt) hxt hxo⟩
structure Go1 (c:Code) (u:Tab) (t:Nat) (m:Mc) where
 w:List Int
 ls:List Ln4
 hu:u[t]?=some w
 hw:w[(m.hd t).cl.toNat]?=some (a3p u t (m.hd t).cl)
 op0:0<=a3p u t (m.hd t).cl
 opc:a3p u t (m.hd t).cl<c.length
 hc:c[(a3p u t (m.hd t).cl).toNat]?=some ls
 call:a2x ls=true
 ln0:0<=(m.hd t).ln
 lnl:(m.hd t).ln<ls.length
 hl:ls[(m.hd t).ln.toNat]?=some (stL c u t m)
 cl0:0<=(m.hd t).cl
 cll:(m.hd t).cl<w.length
theorem a0H {α:Type} {l:List α} {i:Nat} {a d:α} (h:l[i]?=some a):l.getD i d=a:=by simp [List.getD,h]
theorem a7P {c:Code} (hv:a1e c=true) {i:Nat} {ls:List Ln4} (h:c[i]?=some ls):a2x ls=true:=by
 simp only [a1e,zp4,List.all_eq_true] at hv;exact hv.2 ls (List.mem_of_getElem? h)
theorem go1 {c:Code} {u:Tab} {t:Nat} {m:Mc} (hv:a1e c=true) (hu:a3E c u=true) (hi:MInv c u m) (ht:a3b u t m=true):t<2/\Nonempty (Go1 c u t m):=by
 simp only [a3b,zp4,a0n,decide_eq_true_eq,Int.toNat_natCast] at ht;have hul:t<u.length:=by omega
 simp only [a3E,zp4,a0n,List.all_eq_true] at hu;have ht2:t<2:=by omega
 refine ⟨ht2,?_⟩;have hw0:u[t]?=some u[t]:=zp1 hul;have hgd:u.getD t []=u[t]:=a0H hw0;have H:=hi.hd ht2;rw [hgd] at ht;have hcl:(m.hd t).cl.toNat<u[t].length:=by have:=H.cl0;omega
 have hop:u[t][(m.hd t).cl.toNat]?=some u[t][(m.hd t).cl.toNat]:=zp1 hcl;have hopE:a3p u t (m.hd t).cl=u[t][(m.hd t).cl.toNat]:=by unfold a3p;rw [hgd];exact a0H hop
 have hword:=hu.2 u[t] (zp6 hul);simp only [a4C,zp4,List.all_eq_true,a0n] at hword;have hb:=hword.2 _ (zp6 hcl);rw [<-hopE] at hb hop;have hcl2:(a3p u t (m.hd t).cl).toNat<c.length:=by omega
 have hc0:c[(a3p u t (m.hd t).cl).toNat]?=some c[(a3p u t (m.hd t).cl).toNat]:=zp1 hcl2;have hcall:=a7P hv hc0;have hls:c.getD (a3p u t (m.hd t).cl).toNat []=c[(a3p u t (m.hd t).cl).toNat]:=a0H hc0;have hln:0<=(m.hd t).ln/\(m.hd t).ln<(c[(a3p u t (m.hd t).cl).toNat]).length:=by
  cases hin:(m.hd t).inn with
  | true=>obtain ⟨_,_,h3,h4,_⟩:=H.busy hin;rw [hls] at h4;exact ⟨h3,h4⟩
  | false =>
    rw [H.idle hin];simp only [a2x,zp4,a0n] at hcall;omega
 have hl0:(c[(a3p u t (m.hd t).cl).toNat])[(m.hd t).ln.toNat]?=some (c[(a3p u t (m.hd t).cl).toNat])[(m.hd t).ln.toNat]:=zp1 (by omega);have hlE:stL c u t m=(c[(a3p u t (m.hd t).cl).toNat])[(m.hd t).ln.toNat]:=by unfold stL c5o;rw [hls];exact a0H hl0
 exact ⟨⟨u[t],c[(a3p u t (m.hd t).cl).toNat],hw0,hop,hb.1,by omega,hc0,hcall,hln.1,hln.2,by rw [hlE];exact hl0,H.cl0,by omega⟩⟩
theorem a2M {ls:List Ln4} (h:a2x ls=true) {i:Nat} {l:Ln4} (hl:ls[i]?=some l):a2r l ls.length=true:=by
 simp only [a2x,zp4,List.all_eq_true] at h;exact h.2.1 l (List.mem_of_getElem? hl)
theorem b0E {ls:List Ln4} (h:a2x ls=true) {i:Nat} {l:Ln4} (hl:ls[i]?=some l) (h7:l.1≠7):i+1<ls.length:=by
 have hi:=(zp2.1 hl).1;simp only [a2x,zp4,a6e] at h;have h2:=h.2.2;rcases Nat.lt_or_ge (i+1) ls.length with hlt | hge
 ·exact hlt
 have:ls.length-1=i:=by omega
 rw [this,hl] at h2;simp at h2;exact absurd h2 h7
theorem a3M {z i v r:Int} (hv:dg v) (hr:dg r):dg (pk z i v r):=by unfold pk;cases decide (z=i) <;> assumption
theorem c1c {a b:Int} (ha:dg a) (hb:dg b):dg ((a+b).tmod 10):=by
 obtain ⟨a0,a1⟩:=ha;obtain ⟨b0,b1⟩:=hb;rw [Int.tmod_eq_emod_of_nonneg (by omega)];constructor <;> omega
section
variable {l:Ln4} {m st cl ln r0 r1 r2 r3 at_ c0 c1 c2:Int} {h:List Call}
theorem b0F (hok:a2r l m=true) (h7:l.1≠7) (d0:dg r0) (d1:dg r1) (d2:dg r2) (d3:dg r3) (e0:dg c0) (e1:dg c1) (e2:dg c2) :
  (xLn l st cl ln r0 r1 r2 r3 at_ c0 c1 c2 h).1=cl/\((xLn l st cl ln r0 r1 r2 r3 at_ c0 c1 c2 h).2.1=ln+1\/(0<=(xLn l st cl ln r0 r1 r2 r3 at_ c0 c1 c2 h).2.1/\(xLn l st cl ln r0 r1 r2 r3 at_ c0 c1 c2 h).2.1<m)) /\
   (dg (xLn l st cl ln r0 r1 r2 r3 at_ c0 c1 c2 h).2.2.1/\dg (xLn l st cl ln r0 r1 r2 r3 at_ c0 c1 c2 h).2.2.2.1/\dg (xLn l st cl ln r0 r1 r2 r3 at_ c0 c1 c2 h).2.2.2.2.1/\dg (xLn l st cl ln r0 r1 r2 r3 at_ c0 c1 c2 h).2.2.2.2.2.1) /\
   (dg (xLn l st cl ln r0 r1 r2 r3 at_ c0 c1 c2 h).2.2.2.2.2.2.1/\dg (xLn l st cl ln r0 r1 r2 r3 at_ c0 c1 c2 h).2.2.2.2.2.2.2.1/\dg (xLn l st cl ln r0 r1 r2 r3 at_ c0 c1 c2 h).2.2.2.2.2.2.2.2.1) /\
   (xLn l st cl ln r0 r1 r2 r3 at_ c0 c1 c2 h).2.2.2.2.2.2.2.2.2=h:=by
 have k4 : ∀ i,dg (rg4 r0 r1 r2 r3 i):=fun i=>a7O d0 d1 d2 d3;have k3 : ∀ i,dg (rg3 c0 c1 c2 i):=fun i=>c1a e0 e1 e2;have z0:dg 0:=by simp [dg]
 have z1:dg 1:=by simp [dg]
 rcases a6V hok with ⟨h1,_⟩ | ⟨h1,_⟩ | ⟨h1,_⟩ | ⟨h1,_,hb⟩ | ⟨h1,_⟩ | ⟨h1,_,hb0,hb1⟩ | ⟨h1,_⟩
 ·unfold xLn;rw [if_pos h1];exact ⟨rfl,.inl rfl,⟨a3M (k3 _) d0,a3M (k3 _) d1,a3M (k3 _) d2,a3M (k3 _) d3⟩,⟨e0,e1,e2⟩,rfl⟩
 ·unfold xLn;rw [if_neg (by omega),if_pos h1];exact ⟨rfl,.inl rfl,⟨d0,d1,d2,d3⟩,⟨a3M (k4 _) e0,a3M (k4 _) e1,a3M (k4 _) e2⟩,rfl⟩
 ·unfold xLn;rw [if_neg (by omega),if_neg (by omega),if_pos h1];split
  ·exact ⟨rfl,.inl rfl,⟨d0,d1,d2,z1⟩,⟨a3M (k4 _) e0,a3M (k4 _) e1,a3M (k4 _) e2⟩,rfl⟩
  exact ⟨rfl,.inl rfl,⟨d0,d1,d2,z0⟩,⟨e0,e1,e2⟩,rfl⟩
 ·unfold xLn;rw [if_neg (by omega),if_neg (by omega),if_neg (by omega),if_pos h1];exact ⟨rfl,.inl rfl,⟨a3M hb d0,a3M hb d1,a3M hb d2,a3M hb d3⟩,⟨e0,e1,e2⟩,rfl⟩
 ·unfold xLn;rw [if_neg (by omega),if_neg (by omega),if_neg (by omega),if_neg (by omega),if_pos h1];have k5:=fun i j=>c1c (k4 i) (k4 j);exact ⟨rfl,.inl rfl,⟨a3M (k5 _ _) d0,a3M (k5 _ _) d1,a3M (k5 _ _) d2,a3M (k5 _ _) d3⟩,⟨e0,e1,e2⟩,rfl⟩
 ·unfold xLn;rw [if_neg (by omega),if_neg (by omega),if_neg (by omega),if_neg (by omega),if_neg (by omega),if_pos h1];refine ⟨rfl,?_,⟨d0,d1,d2,d3⟩,⟨e0,e1,e2⟩,rfl⟩;show (if rg4 r0 r1 r2 r3 l.2.1=0 then l.2.2.1 else ln+1)=ln+1\/_
  by_cases hq:rg4 r0 r1 r2 r3 l.2.1=0
  ·right;show 0<=(if rg4 r0 r1 r2 r3 l.2.1=0 then l.2.2.1 else ln+1)/\(if rg4 r0 r1 r2 r3 l.2.1=0 then l.2.2.1 else ln+1)<m
   rw [if_pos hq];exact ⟨hb0,hb1⟩
  left;rw [if_neg hq]
 exact absurd h1 h7
theorem b8z (h7:l.1=7) {x:Call} (hx:h[at_.toNat]?=some x) :
  xLn l st cl ln r0 r1 r2 r3 at_ c0 c1 c2 h=(cl+1,0,r0,r1,r2,r3,c0,c1,c2,h.set at_.toNat (x.1,x.2.1,x.2.2.1,rg4 r0 r1 r2 r3 l.2.1,x.2.2.2.2.1,2*st)):=by
 unfold xLn;rw [if_neg (by omega),if_neg (by omega),if_neg (by omega),if_neg (by omega),if_neg (by omega),if_neg (by omega)];simp only [hx]
end
theorem b8A (mks:List Int) (op ln at_ st:Int) (mk:List Int):(mkd mks op ln at_ st mk).length=mk.length:=by
 unfold mkd;cases a9F mks op ln <;> simp
section
variable {c:Code} {u:Tab} {t:Nat} {m:Mc}
structure BInv (c:Code) (u:Tab) (t:Nat) (m:Mc):Prop where
 at0:0<=(stB u t m).2.2.2.2.1
 here : ∃ x:Call,(stB u t m).2.2.2.2.2.1[(stB u t m).2.2.2.2.1.toNat]?=some x/\x.1=t/\x.2.2.1=a3p u t (m.hd t).cl/\x.2.2.2.2.2=0
 old : ∀ (i:Nat) (x:Call),m.h[i]?=some x->(stB u t m).2.2.2.2.2.1[i]?=some x
 new : ∀ (i:Nat) (x:Call),(stB u t m).2.2.2.2.2.1[i]?=some x->x.1≠t->m.h[i]?=some x
 uniq : ∀ (i:Nat) (x:Call),(stB u t m).2.2.2.2.2.1[i]?=some x->x.1=t->x.2.2.2.2.2=0->(stB u t m).2.2.2.2.1=i
 len:(stB u t m).2.2.2.2.2.2.length=(stB u t m).2.2.2.2.2.1.length
 le:(stB u t m).2.2.2.2.2.1.length<=m.h.length+1
 reg:dg (stB u t m).1/\dg (stB u t m).2.1/\dg (stB u t m).2.2.1/\dg (stB u t m).2.2.2.1
theorem c2W (hi:MInv c u m) (ht:t<2):BInv c u t m:=by
 have H:=hi.hd ht;cases hin:(m.hd t).inn with
 | true =>
   have e:stB u t m=((m.hd t).r0,(m.hd t).r1,(m.hd t).r2,(m.hd t).r3,(m.hd t).at_,m.h,m.ms):=by unfold stB beg;rw [hin];rfl
   obtain ⟨h1,_,_,_,x,hx,hx1,hx2,hx3⟩:=H.busy hin;refine ⟨by rw [e];exact h1,⟨x,by rw [e];exact hx,hx1,hx2,hx3⟩,fun i y hy=>by rw [e];exact hy,fun i y hy _=>by rw [e] at hy;exact hy,fun i y hy hy1 hy2 => ?_,by rw [e];exact hi.ms,by rw [e];exact Nat.le_succ _,by rw [e];exact H.reg⟩;rw [e] at hy ⊢;exact (H.uniq i y hy hy1 hy2).2
 | false =>
   have e:stB u t m=(0,1,0,0,(m.h.length:Int),m.h++[((t:Int),0,a3p u t (m.hd t).cl,0,2*m.st+1,0)],m.ms++[0]):=by unfold stB beg;rw [hin];rfl
   refine ⟨by rw [e];show (0:Int)<=m.h.length;omega,⟨_,by rw [e];show (m.h++[((t:Int),0,a3p u t (m.hd t).cl,0,2*m.st+1,0)])[((m.h.length:Int)).toNat]?=_;simp;rfl,rfl,rfl,rfl⟩,fun i y hy => ?_,fun i y hy hne => ?_,fun i y hy hy1 hy2 => ?_,?_,?_,?_⟩
   ·rw [e];show (m.h++_)[i]?=_;rw [zp7 (zp2.1 hy).1];exact hy
   ·rw [e] at hy;replace hy:(m.h++[((t:Int),0,a3p u t (m.hd t).cl,0,2*m.st+1,0)])[i]?=some y:=hy;rcases Nat.lt_or_ge i m.h.length with hl | hl
    ·rw [zp7 hl] at hy;exact hy
    rw [zp8 hl] at hy;have:i-m.h.length=0:=by have:=(zp2.1 hy).1;simp at this;omega
    rw [this] at hy;simp at hy;subst hy;exact absurd rfl hne
   ·rw [e] at hy ⊢;replace hy:(m.h++[((t:Int),0,a3p u t (m.hd t).cl,0,2*m.st+1,0)])[i]?=some y:=hy;show (m.h.length:Int)=i;rcases Nat.lt_or_ge i m.h.length with hl | hl
    ·rw [zp7 hl] at hy;have:=(H.uniq i y hy hy1 hy2).1;rw [hin] at this;cases this
    have:=(zp2.1 hy).1;simp at this;omega
   ·rw [e];simp [hi.ms]
   ·rw [e];simp
   rw [e];exact ⟨by simp [dg],by simp [dg],by simp [dg],by simp [dg]⟩
structure XInv (c:Code) (u:Tab) (t:Nat) (m:Mc):Prop where
 old : ∀ (i:Nat) (x:Call),m.h[i]?=some x->x.1≠t->(stX c u t m).2.2.2.2.2.2.2.2.2[i]?=some x
 new : ∀ (i:Nat) (x:Call),(stX c u t m).2.2.2.2.2.2.2.2.2[i]?=some x->x.1≠t->m.h[i]?=some x
 len:(stX c u t m).2.2.2.2.2.2.2.2.2.length=(stB u t m).2.2.2.2.2.1.length
 cel:dg (stX c u t m).2.2.2.2.2.2.1/\dg (stX c u t m).2.2.2.2.2.2.2.1/\dg (stX c u t m).2.2.2.2.2.2.2.2.1
 me:HInv c u t (stH c u t m) (stX c u t m).2.2.2.2.2.2.2.2.2
theorem c6j (hi:MInv c u m) (ht:t<2) (g:Go1 c u t m):XInv c u t m:=by
 have H:=hi.hd ht;have B:=c2W (u:=u) hi ht;have hst0:0<=m.st:=Int.le_trans (by omega) hi.st;have hok:=a2M g.call g.hl;obtain ⟨x,hx,hx1,hx2,hx3⟩:=B.here;have hgd:u.getD t []=g.w:=a0H g.hu;have hls:c.getD (a3p u t (m.hd t).cl).toNat []=g.ls:=a0H g.hc;obtain ⟨b0,b1,b2,b3⟩:=B.reg;obtain ⟨e0,e1,e2⟩:=hi.cel;by_cases h7:(stL c u t m).1=7
 ·have e:stX c u t m=_:=b8z (st:=m.st+1) (cl:=(m.hd t).cl) (ln:=(m.hd t).ln) (r0:=(stB u t m).1) (r1:=(stB u t m).2.1) (r2:=(stB u t m).2.2.1) (r3:=(stB u t m).2.2.2.1) (c0:=m.c0) (c1:=m.c1) (c2:=m.c2) h7 hx;have hat:(stB u t m).2.2.2.2.1.toNat<(stB u t m).2.2.2.2.2.1.length:=(zp2.1 hx).1;refine ⟨fun i y hy hne => ?_,fun i y hy hne => ?_,by rw [e];simp,by rw [e];exact ⟨e0,e1,e2⟩,⟨?_,?_,fun _ => ?_,fun hin => ?_,fun i y hy hy1 hy2 => ?_⟩⟩
  ·have h1:=B.old i y hy;rw [e];simp only;rw [List.getElem?_set_ne];exact h1;intro he;rw [he] at hx;rw [hx] at h1;cases h1;exact hne hx1
  ·rw [e] at hy;simp only at hy;by_cases he:(stB u t m).2.2.2.2.1.toNat=i
   ·subst he;rw [List.getElem?_set_self hat] at hy;cases hy;exact absurd hx1 hne
   rw [List.getElem?_set_ne he] at hy;exact B.new i y hy hne
  ·show 0<=(stX c u t m).1;rw [e];show 0<=(m.hd t).cl+1;have:=H.cl0;omega
  ·show dg (stX c u t m).2.2.1/\_;unfold stH;rw [e];exact ⟨b0,b1,b2,b3⟩
  ·show (stX c u t m).2.1=0;rw [e]
  ·simp [stH,h7] at hin
  exfalso;rw [e] at hy;simp only at hy;by_cases he:(stB u t m).2.2.2.2.1.toNat=i
  ·subst he;rw [List.getElem?_set_self hat] at hy;cases hy;simp only at hy2;omega
  rw [List.getElem?_set_ne he] at hy;have:=B.uniq i y hy hy1 hy2;omega
 obtain ⟨q1,q2,q3,q4,q5⟩:=b0F (st:=m.st+1) (cl:=(m.hd t).cl) (ln:=(m.hd t).ln) (at_:=(stB u t m).2.2.2.2.1) (h:=(stB u t m).2.2.2.2.2.1) hok h7 b0 b1 b2 b3 e0 e1 e2;have hX1:(stX c u t m).1=(m.hd t).cl:=q1;have hX5:(stX c u t m).2.2.2.2.2.2.2.2.2=(stB u t m).2.2.2.2.2.1:=q5;have hnx:=b0E g.call g.hl h7;refine ⟨fun i y hy _=>by rw [hX5];exact B.old i y hy,fun i y hy hne=>by rw [hX5] at hy;exact B.new i y hy hne,by rw [hX5],q4,⟨?_,q3,fun hin => ?_,fun _ => ?_,fun i y hy hy1 hy2 => ?_⟩⟩
 ·show 0<=(stX c u t m).1;rw [hX1];exact H.cl0
 ·simp [stH,h7] at hin
 ·refine ⟨B.at0,?_,?_,?_,x,by rw [hX5];exact hx,hx1,?_,hx3⟩
  ·show (stX c u t m).1<_;rw [hX1,hgd];exact g.cll
  ·show 0<=(stX c u t m).2.1;rcases q2 with h | h
   ·have h':(stX c u t m).2.1=(m.hd t).ln+1:=h;rw [h'];have:=g.ln0;omega
   exact h.1
  ·show (stX c u t m).2.1<((c.getD (a3p u t (stX c u t m).1).toNat []).length:Int);rw [hX1,hls];rcases q2 with h | h
   ·have h':(stX c u t m).2.1=(m.hd t).ln+1:=h;rw [h'];have:=g.ln0;omega
   exact h.2
  show x.2.2.1=a3p u t (stX c u t m).1;rw [hX1];exact hx2
 rw [hX5] at hy;exact ⟨by simp [stH,h7],B.uniq i y hy hy1 hy2⟩
theorem a9G (mks:List Int) (hi:MInv c u m) (ht:t<2) (g:Go1 c u t m):MInv c u (a0j c u mks t m):=by
 have X:=c6j hi ht g;have B:=c2W (u:=u) hi ht;have hms:(a0j c u mks t m).ms.length=(a0j c u mks t m).h.length:=by
  show (mkd _ _ _ _ _ _).length=_;rw [b8A,B.len];exact X.len.symm
 have hst:((a0j c u mks t m).h.length:Int)<=(a0j c u mks t m).st:=by
  show (((stX c u t m).2.2.2.2.2.2.2.2.2).length:Int)<=m.st+1;rw [X.len];have:=B.le;have:=hi.st;omega
 match t,ht,X,hms,hst with
 | 0,_,X,hms,hst=>exact ⟨X.me,hi.b.frame (fun i x h h1=>X.old i x h (by rw [h1];decide)) (fun i x h h1=>X.new i x h (by rw [h1];decide)),X.cel,hms,hst⟩
 | 1,_,X,hms,hst=>exact ⟨hi.a.frame (fun i x h h1=>X.old i x h (by rw [h1];decide)) (fun i x h h1=>X.new i x h (by rw [h1];decide)),X.me,X.cel,hms,hst⟩
end
section
variable {c:Code} {u:Tab} {m:Mc}
theorem Go1.small {t:Nat} (g:Go1 c u t m) (hu:a3E c u=true):(m.hd t).cl<=1000/\(m.hd t).ln<=1000:=by
 have h1:=g.lnl;have h2:=g.cll;have h3:=g.call;simp only [a2x,zp4,a0n] at h3;simp only [a3E,zp4,List.all_eq_true] at hu;have h4:=hu.2 g.w (List.mem_of_getElem? g.hu);simp only [a4C,zp4,decide_eq_true_eq] at h4;omega
def b0d (c:Code) (mks:List Int):Prop:=mks=[]\/mks.length=c.length
theorem b0d.at {mks:List Int} (h:b0d c mks) {t:Nat} (g:Go1 c u t m):mks=[]\/(a3p u t (m.hd t).cl).toNat<mks.length:=by
 rcases h with h | h
 ·exact .inl h
 right;rw [h];have:=g.op0;have:=g.opc;omega
theorem a9H (mks:List Int) (hmk:b0d c mks) (hv:a1e c=true) (hu:a3E c u=true) (hi:MInv c u m) (hst:m.st<=100) {t:Int} (ht:a3b u t m=true) :
  Z84 Ar.std t (a0d mks) (a0o c) (a0r u) m.a.cl m.a.ln m.a.r0 m.a.r1 m.a.r2 m.a.r3 m.a.at_ m.b.cl m.b.ln m.b.r0 m.b.r1 m.b.r2 m.b.r3 m.b.at_ m.c0 m.c1 m.c2 m.st (a0b m.h) (a0d m.ms)=some (a0o c,a0r u,(a0j c u mks t.toNat m).a.cl,(a0j c u mks t.toNat m).a.ln,(a0j c u mks t.toNat m).a.r0,(a0j c u mks t.toNat m).a.r1,(a0j c u mks t.toNat m).a.r2,(a0j c u mks t.toNat m).a.r3,(a0j c u mks t.toNat m).a.at_,(a0j c u mks t.toNat m).b.cl,(a0j c u mks t.toNat m).b.ln,(a0j c u mks t.toNat m).b.r0,(a0j c u mks t.toNat m).b.r1,(a0j c u mks t.toNat m).b.r2,(a0j c u mks t.toNat m).b.r3,(a0j c u mks t.toNat m).b.at_,(a0j c u mks t.toNat m).c0,(a0j c u mks t.toNat m).c1,(a0j c u mks t.toNat m).c2,(a0j c u mks t.toNat m).st,a0b (a0j c u mks t.toNat m).h,a0d (a0j c u mks t.toNat m).ms):=by
 have h0:0<=t:=by simp only [a3b,zp4,a0n] at ht;omega
 obtain ⟨T,rfl⟩:=zp9 h0;obtain ⟨h2,⟨g⟩⟩:=go1 hv hu hi ht;obtain ⟨s1,s2⟩:=g.small hu;have H:=hi.hd h2;have hs:=hi.st;have hmk':=hmk.at g;rw [Int.toNat_natCast];have hat:(m.hd T).inn=true->0<=(m.hd T).at_/\(m.hd T).at_<m.h.length:=by
  intro hin;obtain ⟨q1,_,_,_,x,hx,_⟩:=H.busy hin;have:=(zp2.1 hx).1;exact ⟨q1,by omega⟩
 match T,h2,g,s1,s2,H,hmk',hat with
 | 0,_,g,s1,s2,H,hmk',hat =>
   exact c4E c u mks m.a.cl m.a.ln m.a.r0 m.a.r1 m.a.r2 m.a.r3 m.a.at_ m.b.cl m.b.ln m.b.r0 m.b.r1 m.b.r2 m.b.r3 m.b.at_ m.c0 m.c1 m.c2 m.st m.h m.ms m.a.inn (a3p u 0 m.a.cl) g.w g.ls (stL c u 0 m)
    g.hu ⟨g.cl0,s1⟩ g.hw g.op0 g.hc ⟨g.ln0,s2⟩ g.hl (a2M g.call g.hl) H.open_eq H.idle (by omega) hi.ms hat (by omega) hmk' H.reg.1 H.reg.2.1 H.reg.2.2.1 H.reg.2.2.2
 | 1,_,g,s1,s2,H,hmk',hat =>
   exact c4F c u mks m.b.cl m.b.ln m.b.r0 m.b.r1 m.b.r2 m.b.r3 m.b.at_ m.a.cl m.a.ln m.a.r0 m.a.r1 m.a.r2 m.a.r3 m.a.at_ m.c0 m.c1 m.c2 m.st m.h m.ms m.b.inn (a3p u 1 m.b.cl) g.w g.ls (stL c u 1 m)
    g.hu ⟨g.cl0,s1⟩ g.hw g.op0 g.hc ⟨g.ln0,s2⟩ g.hl (a2M g.call g.hl) H.open_eq H.idle (by omega) hi.ms hat (by omega) hmk' H.reg.1 H.reg.2.1 H.reg.2.2.1 H.reg.2.2.2
theorem b8B (x2:List D) (hul:u.length<=2) (t:Int):Z94 Ar.std t x2 (a0r u) m.a.cl m.a.ln m.a.r0 m.a.r1 m.a.r2 m.a.r3 m.a.at_ m.b.cl m.b.ln m.b.r0 m.b.r1 m.b.r2 m.b.r3 m.b.at_ m.c0 m.c1 m.c2 m.st (a0b m.h) (a0d m.ms)=some (a3b u t m):=by
 have hw:IntKind.i64.wrap ((u.length:Int)-1)=u.length-1:=b2w (by show u.length<9223372036854775808;omega);unfold Z94;refine bt (v:=a3b u t m) ?_ rfl;simp only [a3I,a2n,a0g,a0D,hw,a0l];cases hb:btw 0 t (u.length-1) with
 | false=>simp [a3b,hb]
 | true =>
   have hb':=(a0n _ _ _).1 hb;rw [cond_true];have hlt:t.toNat<u.length:=by omega
   have hg:u[t.toNat]?=some u[t.toNat]:=zp1 hlt;rcases (by omega:t=0\/t=1) with rfl | rfl
   ·refine cnT rfl (bt (a1O (by decide) hg) ?_);simp only [a3b,hb,Bool.true_and,a0x,a0p,a0H hg];rfl
   refine cnF rfl (cnT rfl (bt (a1O (by decide) hg) ?_));simp only [a3b,hb,Bool.true_and,a0x,a0p,a0H hg];rfl
theorem c1d (x2:List D) (hul:u.length<=2) (t:Int):c4T Ar.std x2 (a0r u) m.a.cl m.a.ln m.a.r0 m.a.r1 m.a.r2 m.a.r3 m.a.at_ m.b.cl m.b.ln m.b.r0 m.b.r1 m.b.r2 m.b.r3 m.b.at_ m.c0 m.c1 m.c2 m.st (a0b m.h) (a0d m.ms) t=some (a3b u t m):=by
 have hw:IntKind.i64.wrap ((u.length:Int)-1)=u.length-1:=b2w (by show u.length<9223372036854775808;omega);unfold c4T;refine bt (v:=a3b u t m) ?_ rfl;simp only [a3I,a2n,a0g,a0D,hw,a0l];cases hb:btw 0 t (u.length-1) with
 | false=>simp [a3b,hb]
 | true =>
   have hb':=(a0n _ _ _).1 hb;rw [cond_true];have hlt:t.toNat<u.length:=by omega
   have hg:u[t.toNat]?=some u[t.toNat]:=zp1 hlt;rcases (by omega:t=0\/t=1) with rfl | rfl
   ·refine cnT rfl (bt (a1O (by decide) hg) ?_);simp only [a3b,hb,Bool.true_and,a0x,a0p,a0H hg];rfl
   refine cnF rfl (cnT rfl (bt (a1O (by decide) hg) ?_));simp only [a3b,hb,Bool.true_and,a0x,a0p,a0H hg];rfl
def RHs (u:Tab) (m:Mc) (hs:List H8):Prop:=hs.length=u.length /\ ∀ (t:Nat) (x:H8),hs[t]?=some x ->
 x.1=(m.hd t).cl+(bif (m.hd t).inn then 1 else 0)/\(m.hd t).ln=(bif (m.hd t).inn then x.2.1 else 0)/\x.2.2=((m.hd t).inn,(m.hd t).at_,(m.hd t).r0,(m.hd t).r1,(m.hd t).r2,(m.hd t).r3)
end
set_option linter.unusedSectionVars false
def a1a (c:Code) (u:Tab) (mks:List Int):List Int->Mc->Mc×Bool
 | [],m=>(m,true)
 | t::r,m=>bif a3b u t m then a1a c u mks r (a0j c u mks t.toNat m) else (m,false)
def a1S (c:Code) (u:Tab) (sch mks:List Int):Mc×Bool:=bif decide (12<sch.length) then (mc0,false) else a1a c u mks sch mc0
theorem a3F (c:Code) (u:Tab) (mks:List Int) (t:Nat) (m:Mc):(a0j c u mks t m).st=m.st+1:=rfl
section
variable {c:Code} {u:Tab} (mks:List Int) (hmk:b0d c mks) (hv:a1e c=true) (hu:a3E c u=true)
include hmk hv hu
theorem b8C:u.length<=2:=by simp only [a3E,zp4,a0n] at hu;omega
theorem a2s {m:Mc} (hi:MInv c u m) {t:Int} (ht:a3b u t m=true):MInv c u (a0j c u mks t.toNat m):=by
 have h0:0<=t:=by simp only [a3b,zp4,a0n] at ht;omega
 obtain ⟨T,rfl⟩:=zp9 h0;obtain ⟨h2,⟨g⟩⟩:=go1 hv hu hi ht;rw [Int.toNat_natCast];exact a9G mks hi h2 g
theorem c1e (sch:List Int) (hl:sch.length<Lg) :
  Z69 Ar.std (a0o c) (a0r u) (a0d sch) (a0d mks)=some (a0o c,a0r u,(a1S c u sch mks).1.a.cl,(a1S c u sch mks).1.a.ln,(a1S c u sch mks).1.a.r0,(a1S c u sch mks).1.a.r1,(a1S c u sch mks).1.a.r2,(a1S c u sch mks).1.a.r3,(a1S c u sch mks).1.a.at_,(a1S c u sch mks).1.b.cl,(a1S c u sch mks).1.b.ln,(a1S c u sch mks).1.b.r0,(a1S c u sch mks).1.b.r1,(a1S c u sch mks).1.b.r2,(a1S c u sch mks).1.b.r3,(a1S c u sch mks).1.b.at_,(a1S c u sch mks).1.c0,(a1S c u sch mks).1.c1,(a1S c u sch mks).1.c2,(a1S c u sch mks).1.st,a0b (a1S c u sch mks).1.h,a0d (a1S c u sch mks).1.ms,(a1S c u sch mks).2):=by
 have hul:=b8C mks hmk hv hu;unfold Z69 a1S;refine bt (v:=(a0o c,a0r u)) rfl ?_;dsimp only;by_cases h12:12<sch.length
 ·have h12':decide (12<sch.length)=true:=decide_eq_true h12;rw [h12'];exact cnT (by simp;omega) rfl
 have h12':decide (12<sch.length)=false:=decide_eq_false h12;rw [h12',cond_false];refine cnF (by simp;omega) ?_;have e:=a4c (step:=b0e Ar.std (a0d sch) (a0d mks)) sch (fun (m:Mc) (i:Nat)=>((i:Int),a0o c,a0r u,m.a.cl,m.a.ln,m.a.r0,m.a.r1,m.a.r2,m.a.r3,m.a.at_,m.b.cl,m.b.ln,m.b.r0,m.b.r1,m.b.r2,m.b.r3,m.b.at_,m.c0,m.c1,m.c2,m.st,a0b m.h,a0d m.ms))
  (fun m t=>bif a3b u t m then .inl (a0j c u mks t.toNat m) else .inr (.inr (a0o c,a0r u,m.a.cl,m.a.ln,m.a.r0,m.a.r1,m.a.r2,m.a.r3,m.a.at_,m.b.cl,m.b.ln,m.b.r0,m.b.r1,m.b.r2,m.b.r3,m.b.at_,m.c0,m.c1,m.c2,m.st,a0b m.h,a0d m.ms,a0o c,a0r u,m.a.cl,m.a.ln,m.a.r0,m.a.r1,m.a.r2,m.a.r3,m.a.at_,m.b.cl,m.b.ln,m.b.r0,m.b.r1,m.b.r2,m.b.r3,m.b.at_,m.c0,m.c1,m.c2,m.st,a0b m.h,a0d m.ms)))
  (fun m => .inl (a0o c,a0r u,m.a.cl,m.a.ln,m.a.r0,m.a.r1,m.a.r2,m.a.r3,m.a.at_,m.b.cl,m.b.ln,m.b.r0,m.b.r1,m.b.r2,m.b.r3,m.b.at_,m.c0,m.c1,m.c2,m.st,a0b m.h,a0d m.ms)) (fun i m=>MInv c u m/\m.st=i)
  (fun i t m hn hI=>by
   have hi:=(zp2.1 hn).1;obtain ⟨hI1,hI2⟩:=hI;have h1:Ar.std.zlt (i:Int) (Ar.std.len (a0d sch))=true:=by simp;omega
   cases ht:a3b u t m with
   | true =>
     refine .inl ⟨_,rfl,⟨a2s mks hmk hv hu hI1 ht,by rw [a3F,hI2];rfl⟩,?_⟩;unfold b0e;refine cnT h1 (bt (a0t hn) (bt (b8B _ hul t) (cnT ht (bt (a9H mks hmk hv hu hI1 (by omega) ht) ?_))));simp only [a0g,a0i,a0G hi hl]
   | false =>
     refine .inr ⟨_,rfl,?_⟩;unfold b0e;exact cnT h1 (bt (a0t hn) (bt (b8B _ hul t) (cnF ht rfl))))
  (fun m _=>by
   unfold b0e;exact cnF (by simp) rfl) mc0 ⟨a7v c u,rfl⟩
 have e0:iter (b0e Ar.std (a0d sch) (a0d mks)) (0,a0o c,a0r u,0,0,0,0,0,0,0,0,0,0,0,0,0,0,0,0,0,0,[],[])=_:=e;refine bt e0 ?_;have key : ∀ (l:List Int) (m:Mc),a5T (fun (m:Mc) t=>bif a3b u t m then Sum.inl (a0j c u mks t.toNat m) else Sum.inr (Sum.inr (a0o c,a0r u,m.a.cl,m.a.ln,m.a.r0,m.a.r1,m.a.r2,m.a.r3,m.a.at_,m.b.cl,m.b.ln,m.b.r0,m.b.r1,m.b.r2,m.b.r3,m.b.at_,m.c0,m.c1,m.c2,m.st,a0b m.h,a0d m.ms,a0o c,a0r u,m.a.cl,m.a.ln,m.a.r0,m.a.r1,m.a.r2,m.a.r3,m.a.at_,m.b.cl,m.b.ln,m.b.r0,m.b.r1,m.b.r2,m.b.r3,m.b.at_,m.c0,m.c1,m.c2,m.st,a0b m.h,a0d m.ms)))
   (fun m=>Sum.inl (a0o c,a0r u,m.a.cl,m.a.ln,m.a.r0,m.a.r1,m.a.r2,m.a.r3,m.a.at_,m.b.cl,m.b.ln,m.b.r0,m.b.r1,m.b.r2,m.b.r3,m.b.at_,m.c0,m.c1,m.c2,m.st,a0b m.h,a0d m.ms)) l m=(bif (a1a c u mks l m).2 then Sum.inl (a0o c,a0r u,(a1a c u mks l m).1.a.cl,(a1a c u mks l m).1.a.ln,(a1a c u mks l m).1.a.r0,(a1a c u mks l m).1.a.r1,(a1a c u mks l m).1.a.r2,(a1a c u mks l m).1.a.r3,(a1a c u mks l m).1.a.at_,(a1a c u mks l m).1.b.cl,(a1a c u mks l m).1.b.ln,(a1a c u mks l m).1.b.r0,(a1a c u mks l m).1.b.r1,(a1a c u mks l m).1.b.r2,(a1a c u mks l m).1.b.r3,(a1a c u mks l m).1.b.at_,(a1a c u mks l m).1.c0,(a1a c u mks l m).1.c1,(a1a c u mks l m).1.c2,(a1a c u mks l m).1.st,a0b (a1a c u mks l m).1.h,a0d (a1a c u mks l m).1.ms) else Sum.inr (a0o c,a0r u,(a1a c u mks l m).1.a.cl,(a1a c u mks l m).1.a.ln,(a1a c u mks l m).1.a.r0,(a1a c u mks l m).1.a.r1,(a1a c u mks l m).1.a.r2,(a1a c u mks l m).1.a.r3,(a1a c u mks l m).1.a.at_,(a1a c u mks l m).1.b.cl,(a1a c u mks l m).1.b.ln,(a1a c u mks l m).1.b.r0,(a1a c u mks l m).1.b.r1,(a1a c u mks l m).1.b.r2,(a1a c u mks l m).1.b.r3,(a1a c u mks l m).1.b.at_,(a1a c u mks l m).1.c0,(a1a c u mks l m).1.c1,(a1a c u mks l m).1.c2,(a1a c u mks l m).1.st,a0b (a1a c u mks l m).1.h,a0d (a1a c u mks l m).1.ms,a0o c,a0r u,(a1a c u mks l m).1.a.cl,(a1a c u mks l m).1.a.ln,(a1a c u mks l m).1.a.r0,(a1a c u mks l m).1.a.r1,(a1a c u mks l m).1.a.r2,(a1a c u mks l m).1.a.r3,(a1a c u mks l m).1.a.at_,(a1a c u mks l m).1.b.cl,(a1a c u mks l m).1.b.ln,(a1a c u mks l m).1.b.r0,(a1a c u mks l m).1.b.r1,(a1a c u mks l m).1.b.r2,(a1a c u mks l m).1.b.r3,(a1a c u mks l m).1.b.at_,(a1a c u mks l m).1.c0,(a1a c u mks l m).1.c1,(a1a c u mks l m).1.c2,(a1a c u mks l m).1.st,a0b (a1a c u mks l m).1.h,a0d (a1a c u mks l m).1.ms)):=by
  intro l
  induction l with
  | nil=>intro m;rfl
  | cons t r ih =>
    intro m;rw [a3n];unfold a1a;cases ht:a3b u t m with
    | true=>exact ih _
    | false=>rfl
 rw [key];cases (a1a c u mks sch mc0).2 <;> rfl
end
def a9I (t:Tab):Bool:=t.any fun r=>decide (20<(r.length:Int))
def a9J (l:List Spec):Bool:=(l.any fun s=>decide (20<(s.2.2.1.length:Int))||decide (20<(s.2.2.2.length:Int))||a9I s.2.2.1||a9I s.2.2.2)||decide (5<(l.length:Int))
theorem b1u (t:Tab) (ht:a0C t):iter (b2K Ar.std (a0r t)) 0=some (bif a9I t then .inr () else .inl ()):=by
 refine a1k t _ _ _ (fun i r hr hi => ?_) ?_
 ·simp [b2K,a5B hr,hi,a0G hi ht.1]
 simp [b2K]
theorem b6f (t:Tab) (ht:a0C t):iter (b7K Ar.std (a0r t)) 0=some (bif a9I t then .inr () else .inl ()):=b1u t ht
theorem c1f (l:List Spec) (hl:a1Y l):Z59 Ar.std (a0E l)=some (a9J l):=by
 have e:iter (b2L Ar.std (a0E l)) 0=some (bif (l.any fun s=>decide (20<(s.2.2.1.length:Int))||decide (20<(s.2.2.2.length:Int))||a9I s.2.2.1||a9I s.2.2.2) then .inr () else .inl ()):=by
  refine a1k l _ _ _ (fun i s hs hi => ?_) ?_
  ·obtain ⟨h1,h2⟩:=hl.2 s (List.mem_of_getElem? hs);simp only [b2L,a6S hs,a0l,b1u _ h1,b6f _ h2,a0x,a2h,a2n,ltC hi,cond_true,a0g,a0i,a0G hi hl.1];cases decide (20<(s.2.2.1.length:Int)) <;> cases decide (20<(s.2.2.2.length:Int)) <;> cases a9I s.2.2.1 <;> cases a9I s.2.2.2 <;> rfl
  simp [b2L]
 unfold Z59;rw [e];simp only [a9J,a0l,a0x,a2h];cases l.any _ <;> rfl
def b1v (s:Spec) (c:Code) (u:Tab):Bool :=
 (c.any fun l=>decide (30<(l.length:Int)))||((u.any fun l=>decide (20<(l.length:Int)))||(a9J [s]||(decide (10<(c.length:Int))||decide (10<(u.length:Int)))))
theorem c1g (s:Spec) (hs:a0C s.2.2.1/\a0C s.2.2.2) (c:Code) (hc:a1q c) (u:Tab) (hu:a0C u):Z18 Ar.std s.1 s.2.1 (a0r s.2.2.1) (a0r s.2.2.2) (a0o c) (a0r u)=some (b1v s c u):=by
 have e0:iter (b2M Ar.std (a0o c)) 0=some (bif (c.any fun l=>decide (30<(l.length:Int))) then .inr () else .inl ()):=by
  refine a1k c _ _ _ (fun i r hr hi => ?_) ?_
  ·simp [b2M,a2W hr,hi,a0G hi hc.1]
  simp [b2M]
 have e1:iter (b2N Ar.std (a0r u)) 0=some (bif (u.any fun l=>decide (20<(l.length:Int))) then .inr () else .inl ()):=by
  refine a1k u _ _ _ (fun i r hr hi => ?_) ?_
  ·simp [b2N,a5B hr,hi,a0G hi hu.1]
  simp [b2N]
 have e2:Z59 Ar.std [.agg [.int .i64 s.1,.int .i64 s.2.1,.list 1 (a0r s.2.2.1),.list 1 (a0r s.2.2.2)]]=some (a9J [s]) :=
  c1f [s] ⟨by show 1<9223372036854775808;decide,fun x hx=>by rw [List.mem_singleton.1 hx];exact hs⟩
 unfold Z18 b1v;rw [e0,a0l];cases c.any fun l=>decide (30<(l.length:Int)) with
 | true=>rfl
 | false =>
   simp only [cond_false,Sum.elim_inl];rw [e1,a0l];cases u.any fun l=>decide (20<(l.length:Int)) with
   | true=>rfl
   | false =>
     simp only [cond_false,Sum.elim_inl,e2,a0l,a0x,a2q,a2n];cases a9J [s] <;> cases decide (10<(c.length:Int)) <;> rfl
theorem b1w {c:Code} {u:Tab} (h:a3o c u=0):a1e c=true/\a3E c u=true:=by
 unfold a3o at h;cases h1:a1e c <;> rw [h1] at h
 ·cases h
 cases h2:a3E c u <;> rw [h2] at h
 ·cases h
 exact ⟨rfl,rfl⟩
def a8u {α:Type} (c:Code) (u:Tab) (sch:List Int) (f:Mc->α) (no:α):α×Int :=
 bif decide (a3o c u=0) then (bif (a1S c u sch []).2 then (f (a1S c u sch []).1,0) else (no,2)) else (no,a3o c u)
section
variable {c:Code} (hc:a1q c) {u:Tab} (hu:a0C u) {sch:List Int} (hl:sch.length<Lg)
include hc hu hl
theorem b7u:Z15 Ar.std (a0o c) (a0r u) (a0d sch)=some (a0b (a8u c u sch Mc.h []).1,(a8u c u sch Mc.h []).2):=by
 have e:Z51 Ar.std (a0o c) (a0r u) (a0d sch) []=some (bif decide (a3o c u=0) then (bif (a1S c u sch []).2 then .inl (a0b (a1S c u sch []).1.h) else .inr 2) else .inr (a3o c u)):=by
  unfold Z51;refine bt (b1r c hc u hu) ?_;by_cases h:a3o c u=0
  ·obtain ⟨h1,h2⟩:=b1w h;rw [decide_eq_true h,cond_true];refine cnT (decide_eq_true h) (bt (c1e [] (.inl rfl) h1 h2 sch hl) ?_);dsimp only;cases (a1S c u sch []).2 <;> rfl
  rw [decide_eq_false h,cond_false];exact cnF (decide_eq_false h) rfl
 unfold Z15;refine bt (v:=((a8u c u sch Mc.h []).2,a0b (a8u c u sch Mc.h []).1)) (bt e ?_) rfl;unfold a8u;cases decide (a3o c u=0) <;> cases (a1S c u sch []).2 <;> rfl
theorem a7Q (l:List D) (h:l.length<4294967296):Z39 Ar.std l=some l:=by
 have e:ap Ar.std [] l=some l:=by simpa using b7m (l:=[]) (m:=l) (by simpa using (by omega:(l.length:Int)<4294967296))
 unfold Z39;cases l with
 | nil=>exact cnF rfl (by rw [e];exact a9A _)
 | cons x r=>exact cnT (by simp <;> omega) (by rw [e];rfl)
def a0y (u:Tab) (m:Mc):List Int:=((List.range' 0 u.length).filter fun t:Nat=>a3b u t m).map fun t:Nat=>(t:Int)
omit hc hu hl in
theorem b4p {X:Type} {step:(List D×Int)->Option ((List D×Int)⊕X)} {n:Nat} (hn:n<=2) (p:Nat->Bool) (x:List D->X)
  (hs : ∀ (i:Nat) (o:List Int),i<n->o.length<=i->step (a0d o,(i:Int))=some (.inl (a0d (bif p i then o++[(i:Int)] else o),((i+1:Nat):Int)))) (he : ∀ o:List Int,step (a0d o,(n:Int))=some (.inr (x (a0d o)))) :
  iter step ([],0)=some (x (a0d (((List.range' 0 n).filter p).map fun t:Nat=>(t:Int)))):=by
 have key : ∀ (k i:Nat) (o:List Int),i+k=n->o.length<=i->iter step (a0d o,(i:Int))=some (x (a0d (o++((List.range' i k).filter p).map fun t:Nat=>(t:Int)))):=by
  intro k
  induction k with
  | zero=>intro i o hi _;obtain rfl:i=n:=by omega
          rw [a1X (he o)];simp
  | succ k ih =>
    intro i o hi ho;rw [a4o (hs i o (by omega) ho),ih (i+1) _ (by omega) (by cases p i <;> simp <;> omega),List.range'_succ,List.filter_cons];cases p i <;> simp
 have:=key n 0 [] (by omega) (by simp);simpa using this
end
def b8D:Code:=[[(1,0,0,0),(5,2,0,1),(2,0,2,0),(7,0,0,0)]]
theorem c1h:(a8u b8D [[0],[0]] [0,0,1,1,0,0,1,1] Mc.h []).1=[((0,0,0,0,1,12):Int×Int×Int×Int×Int×Int),(1,0,0,0,5,16)]:=by decide +kernel
theorem c1i:(a8u b8D [[0],[0]] [0,0,1,1,0,0,1,1] Mc.h []).2=0:=by decide +kernel
theorem b6g:Z9 Ar.std=some true:=by
 have e:=b7u (c:=b8D) (u:=[[0],[0]]) (sch:=[0,0,1,1,0,0,1,1]) ⟨by show 1<9223372036854775808;decide,by decide +kernel⟩ ⟨by show 2<9223372036854775808;decide,by decide +kernel⟩ (by show 8<9223372036854775808;decide);rw [c1h,c1i] at e;unfold Z9;refine bt (v:=(a0b [(0,0,0,0,1,12),(1,0,0,0,5,16)],0)) e (bt (v:=true) ?_ rfl);refine cnT rfl (cnT rfl (bt (a2U (c:=a5A) (i:=0) rfl) (cnT (by simp) (bt (a2U (c:=a5A) (i:=1) rfl) ?_))));simp
theorem a8v (c:Code) (u:Tab) (mks:List Int) : ∀ (sch:List Int) (m:Mc),MInv c u m->b0d c mks->a1e c=true->a3E c u=true->(a1a c u mks sch m).1.st<=m.st+sch.length
 | [],m,_,_,_,_=>by simp [a1a]
 | t::r,m,hi,hk,hv,hu=>by
   unfold a1a;cases ht:a3b u t m with
   | false=>simp;omega
   | true =>
     have:=a8v c u mks r _ (a2s mks hk hv hu hi ht) hk hv hu;rw [a3F] at this;simp only [cond_true,List.length_cons];omega
theorem a8w (a b c:Int):b5n Ar.std a b c=some (btw a b c):=by simp [b5n,btw]
def a9K (ops lim:Int) (r:List Int):Bool:=decide ((r.length:Int)=ops)&&r.all fun n=>btw 0 n lim
def a7w (st ops lim:Int) (t:Tab):Bool:=decide ((t.length:Int)=st)&&t.all (a9K ops lim)
def a0P (s:Spec):Bool:=btw 1 s.1 8&&(btw 1 s.2.1 4&&(a7w s.1 s.2.1 (s.1-1) s.2.2.1&&a7w s.1 s.2.1 5 s.2.2.2))
section
variable (a b:Int) (t u:List D) (lim:Int)
theorem b6h (r:List Int) (hr:r.length<Lg):b2P Ar.std (a0d r) lim=some (r.any fun n => !btw 0 n lim):=by
 have e:iter (a6l Ar.std (a0d r) lim) 0=some ((r.findIdx? fun n => !btw 0 n lim).elim (.inl ()) (fun i => .inr (i:Int))):=by
  refine a1o r _ _ _ (fun i n hn hi => ?_) ?_
  ·simp [a6l,c2x,a8w,a0t hn,hi,a0G hi hr]
  simp [a6l]
 simp only [b2P,b5o,e,a0l,a1p,a0Z,a2g]
theorem b8E (r:List Int) (hr:r.length<Lg):b9F Ar.std (a0d r) a b t u lim=some (!a9K b lim r):=by
 simp only [b9F,b6h lim r hr,a0l,a0F,a0p,a0O,a9K];cases h:decide ((r.length:Int)=b) <;> simp [a1d]
theorem b6i (x:Tab) (hx:a0C x):b2Q Ar.std (a0r x) a b t u lim=some (x.any fun r => !a9K b lim r):=by
 have e:iter (a6m Ar.std (a0r x) a b t u lim) 0=some ((x.findIdx? fun r => !a9K b lim r).elim (.inl ()) (fun i => .inr (i:Int))):=by
  refine a1o x _ _ _ (fun i r hn hi => ?_) ?_
  ·simp [a6m,b8E a b t u lim r (hx.2 r (List.mem_of_getElem? hn)),a5B hn,hi,a0G hi hx.1]
  simp [a6m]
 simp only [b2Q,b5p,e,a0l,a1p,a0Z,a2g]
theorem b4q (x:Tab) (hx:a0C x):b9p Ar.std a b t u (a0r x) lim=some (a7w a b lim x):=by
 simp only [b9p,b6i a b t u lim x hx,a0l,a0F,a2n,a0O,a7w];cases h:decide ((x.length:Int)=a) <;> simp [a1d]
end
theorem b4r (s:Spec) (h1:a0C s.2.2.1) (h2:a0C s.2.2.2):Z81 Ar.std s.1 s.2.1 (a0r s.2.2.1) (a0r s.2.2.2)=some (a0P s):=by
 simp only [Z81,a8w,b4q _ _ _ _ _ _ h1,b4q _ _ _ _ _ _ h2,a0l];by_cases hb:btw 1 s.1 8=true
 ·have:=(a0n _ _ _).1 hb;simp only [a0g,a0D,b2v (x:=s.1) (by omega) (by omega),a0P,a0O,a0l,a6R]
 simp [a0P,hb]
theorem b7v (a b:Int) (t u:List D) (lim:Int) (x:Tab) (hx:a0C x):Z79 Ar.std a b t u (a0r x) lim=some (a7w a b (lim-1) x):=by
 have e0 : ∀ r:List Int,r.length<Lg->iter (b2X Ar.std lim (a0d r)) 0=some (bif (r.any fun n => !btw 0 n (lim-1)) then .inr () else .inl ()):=by
  intro r hr;refine a1k r _ _ _ (fun i n hn hi => ?_) ?_
  ·have:(decide (n<0)||decide (lim<=n)) = !btw 0 n (lim-1):=by
    rw [Bool.eq_iff_iff];simp [btw];omega
   simp [b2X,a0t hn,hi,a0G hi hr,this]
  simp [b2X]
 have e:iter (b2Y Ar.std b (a0r x) lim) 0=some (bif (x.any fun r => !a9K b (lim-1) r) then .inr () else .inl ()):=by
  refine a1k x _ _ _ (fun i r hn hi => ?_) ?_
  ·simp only [b2Y,a0x,a2n,ltC hi,cond_true,a5B hn,a0l,e0 r (hx.2 r (List.mem_of_getElem? hn)),a0F,a0p,a0g,a0i,a0G hi hx.1,a9K];cases decide ((r.length:Int)=b) <;> simp [a1d]
  simp [b2Y]
 simp only [Z79,e,a0l,a0F,a2n,a7w];cases decide ((x.length:Int)=a) <;> simp [a1d]
theorem b7w (s:Spec) (h1:a0C s.2.2.1) (h2:a0C s.2.2.2):Z31 Ar.std s.1 s.2.1 (a0r s.2.2.1) (a0r s.2.2.2)=some (a0P s):=by
 simp only [Z31,b7v _ _ _ _ _ _ h1,b7v _ _ _ _ _ _ h2,a0l,a0Z,a0O,a0P,btw];cases decide (1<=s.1) <;> cases decide (s.1<=8) <;> cases decide (1<=s.2.1) <;> cases decide (s.2.1<=4) <;> simp
def nx (t:Tab) (now op:Int):Int:=(t.getD now.toNat []).getD op.toNat 0
theorem a4M {st ops lim:Int} {t:Tab} (h:a7w st ops lim t=true) {now op:Int} (h1:0<=now) (h2:now<st) (h3:0<=op) (h4:op<ops) :
  ∃ r,t[now.toNat]?=some r/\r[op.toNat]?=some (nx t now op)/\0<=nx t now op/\nx t now op<=lim:=by
 simp only [a7w,zp4,decide_eq_true_eq,List.all_eq_true] at h;obtain ⟨hl,hr⟩:=h;have hlt:now.toNat<t.length:=by omega
 have hrow:=hr _ (zp6 hlt);simp only [a9K,zp4,decide_eq_true_eq,List.all_eq_true] at hrow;have hlt2:op.toNat<t[now.toNat].length:=by omega
 have hn:=hrow.2 _ (zp6 hlt2);rw [a0n] at hn;have e:nx t now op=t[now.toNat][op.toNat]:=by
  simp only [nx,List.getD_eq_getElem?_getD,zp1 hlt,Option.getD_some,zp1 hlt2]
 refine ⟨_,zp1 hlt,?_,?_⟩
 ·rw [e];exact zp1 hlt2
 rw [e];exact hn
theorem a2i (x:Spec):a0P x=true↔(1<=x.1/\x.1<=8)/\(1<=x.2.1/\x.2.1<=4)/\a7w x.1 x.2.1 (x.1-1) x.2.2.1=true/\a7w x.1 x.2.1 5 x.2.2.2=true:=by
 simp only [a0P,zp4,a0n]
def a6W (s:Spec) (c:Code) (u:Tab):Int:=bif a1e c then bif a0P s&&decide (s.2.1=(c.length:Int)) then bif a3E c u then 0 else 81 else 10 else 80
theorem b7x (s:Spec) (hs:a0C s.2.2.1/\a0C s.2.2.2) (c:Code) (hc:a1q c) (u:Tab) (hu:a0C u):Z33 Ar.std s.1 s.2.1 (a0r s.2.2.1) (a0r s.2.2.2) (a0o c) (a0r u)=some (a6W s c u):=by
 unfold Z33 a6W;refine bt (b7p c hc) ?_;cases hv:a1e c with
 | false=>rfl
 | true =>
   refine bt (v := !(a0P s&&decide (s.2.1=(c.length:Int)))) (bt (b4r s hs.1 hs.2) ?_) ?_
   ·cases a0P s with
    | false=>rfl
    | true=>rw [a2q];rfl
   cases a0P s&&decide (s.2.1=(c.length:Int)) with
   | false=>rfl
   | true =>
     refine cnF rfl (bt (b1r c hc u hu) ?_);simp only [a3o,hv,cond_true]
theorem b4s (a b c:Int):b2R Ar.std a b c=some (btw a b c):=by simp [b2R,btw]
def bef (c d:Call):Bool:=decide (c.to≠0)&&decide (c.to<d.fr)
def a1r (c:Call):Bool:=btw 0 c.th 3&&(btw 0 c.ob 1&&(btw 0 c.op 3&&(btw 0 c.sa 9&&(btw 1 c.fr 100&&bif decide (c.to=0) then decide (c.sa=0) else btw (c.fr+1) c.to 100))))
def meet (c d:Call):Bool:=(decide (c.fr=d.fr)||(decide (c.fr=d.to)||(decide (c.to=d.fr)||(decide (c.to≠0)&&decide (c.to=d.to)))))||(decide (c.th=d.th)&&(!bef c d && !bef d c))
def b0G (h:List Call) (i:Nat):Bool:=(h[i]?.map fun c => !a1r c||(h.take i).any (meet c)).getD false
def a4e (h:List Call):Bool := !decide (8<(h.length:Int)) && !(List.range h.length).any (b0G h)
theorem a4f {h:List Call} {i:Nat} {c:Call} (hc:h[i]?=some c):b0G h i=(!a1r c||(h.take i).any (meet c)):=by simp [b0G,hc]
theorem b4t (c d:Call) (hc:0<=c.to):Z75 Ar.std c.1 c.2.1 c.2.2.1 c.2.2.2.1 c.2.2.2.2.1 c.2.2.2.2.2 d.1 d.2.1 d.2.2.1 d.2.2.2.1 d.2.2.2.2.1 d.2.2.2.2.2=some (bef c d):=by
 simp only [Z75,a0x,a0O,a0l,bef,a6R];have:decide (0<c.2.2.2.2.2)=decide (c.2.2.2.2.2≠0):=by simp only [Call.to] at hc;rw [decide_eq_decide];omega
 rw [this]
theorem a0Q (c:Call):a1r c=true↔(0<=c.th/\c.th<=3)/\(0<=c.ob/\c.ob<=1)/\(0<=c.op/\c.op<=3)/\(0<=c.sa/\c.sa<=9)/\(1<=c.fr/\c.fr<=100)/\((c.to=0/\c.sa=0)\/(c.fr<c.to/\c.to<=100)):=by
 simp only [a1r,zp4,a0n];constructor
 ·rintro ⟨h1,h2,h3,h4,h5,h6⟩;refine ⟨h1,h2,h3,h4,h5,?_⟩;by_cases h:c.to=0
  ·simp only [h,decide_true,cond_true,decide_eq_true_eq] at h6;exact .inl ⟨h,h6⟩
  simp only [h,decide_false,cond_false,a0n] at h6;exact .inr ⟨by omega,h6.2⟩
 rintro ⟨h1,h2,h3,h4,h5,h6⟩;refine ⟨h1,h2,h3,h4,h5,?_⟩;rcases h6 with ⟨h6,h7⟩ | ⟨h6,h7⟩
 ·simp [h6,h7]
 have:c.to≠0:=by omega
 simp only [this,decide_false,cond_false,a0n];omega
theorem b8F (c:Call):b9H Ar.std c.1 c.2.1 c.2.2.1 c.2.2.2.1 c.2.2.2.2.1 c.2.2.2.2.2=some (a1r c):=by
 simp only [b9H,b4s,a0l,a0O,a0F,a0x,a1r,a6R];by_cases h:c.2.2.2.2.2=0
 ·simp only [h,decide_true,cond_true];cases btw 0 c.1 3 <;> cases btw 0 c.2.1 1 <;> cases btw 0 c.2.2.1 3 <;> cases btw 0 c.2.2.2.1 9 <;> cases btw 1 c.2.2.2.2.1 100 <;> rfl
 simp only [h,decide_false,cond_false];have e:btw 1 c.2.2.2.2.1 100=true->(btw 2 c.2.2.2.2.2 100&&decide (c.2.2.2.2.1<c.2.2.2.2.2))=btw (c.2.2.2.2.1+1) c.2.2.2.2.2 100:=by
  intro hb;rw [a0n] at hb;rw [Bool.eq_iff_iff];simp [btw];omega
 cases h5:btw 1 c.2.2.2.2.1 100
 ·cases btw 0 c.1 3 <;> cases btw 0 c.2.1 1 <;> cases btw 0 c.2.2.1 3 <;> cases btw 0 c.2.2.2.1 9 <;> rfl
 rw [e h5];cases btw 0 c.1 3 <;> cases btw 0 c.2.1 1 <;> cases btw 0 c.2.2.1 3 <;> cases btw 0 c.2.2.2.1 9 <;> rfl
def tkS (t:List Bool) (c:Call):List Bool:=bif decide (0<c.to) then (t.set c.fr.toNat true).set c.to.toNat true else t.set c.fr.toNat true
def tkB (pre:List Call):List Bool:=pre.foldl tkS (List.replicate 101 false)
def occ (m:Int) (d:Call):Bool:=decide (d.fr=m)||(decide (0<d.to)&&decide (d.to=m))
theorem b1x (pre:List Call) (c:Call):tkB (pre++[c])=tkS (tkB pre) c:=by simp [tkB]
theorem b8G : ∀ (pre:List Call),(∀ d∈pre,a1r d=true)->(tkB pre).length=101 /\ ∀ m:Nat,m<=100->(tkB pre)[m]?=some (pre.any (occ m)):=by
 intro pre
 induction h:pre.length generalizing pre with
 | zero =>
   intro _;obtain rfl:=List.length_eq_zero_iff.1 h;refine ⟨rfl,fun m hm => ?_⟩;show (List.replicate 101 false)[m]?=_;rw [List.getElem?_replicate,if_pos (by omega)];rfl
 | succ n ih =>
   intro hok;obtain ⟨p,c,rfl⟩ : ∃ p c,pre=p++[c]:=⟨pre.dropLast,pre.getLast (by intro e;rw [e] at h;cases h),(List.dropLast_concat_getLast _).symm⟩;obtain ⟨h1,h2⟩:=ih p (by simpa using h) (fun d hd=>hok d (by simp [hd]));obtain ⟨_,_,_,_,h5,h6⟩:=(a0Q c).1 (hok c (by simp));rw [b1x];refine ⟨by unfold tkS;cases decide (0<c.to) <;> simp [h1],fun m hm => ?_⟩;rw [List.any_append];simp only [List.any_cons,List.any_nil,Bool.or_false];have hg : ∀ t:List Bool,t.length=101 -> ∀ a:Int,0<=a -> ∀ b,t[m]?=some b->(t.set a.toNat true)[m]?=some (b||decide (a=m)):=by
    intro t ht a ha b hb;rw [List.getElem?_set];by_cases he:a.toNat=m
    ·have:a=m:=by omega
     simp [he,this,ht];omega
    have : ¬ a=m:=by omega
    simp [he,this,hb]
   unfold tkS occ;by_cases hto:0<c.to
   ·simp only [hto,decide_true,cond_true,Bool.true_and];rw [hg _ (by simp [h1]) _ (by omega) _ (hg _ h1 _ (by omega) _ (h2 m hm))];simp only [Bool.or_assoc];rfl
   simp only [hto,decide_false,cond_false,Bool.false_and,Bool.or_false];exact hg _ h1 _ (by omega) _ (h2 m hm)
def over (c d:Call):Bool:=decide (c.th=d.th)&&(!bef c d && !bef d c)
theorem b6j {c:Call} (hc:a1r c=true) (pre:List Call) (hp : ∀ d∈pre,a1r d=true):pre.any (meet c)=((pre.any (occ c.fr)||(decide (0<c.to)&&pre.any (occ c.to)))||pre.any (over c)):=by
 rw [<-b6c,<-b4n,<-b4n];refine a5a fun d hd => ?_;obtain ⟨_,_,_,_,c5,c6⟩:=(a0Q c).1 hc;obtain ⟨_,_,_,_,d5,d6⟩:=(a0Q d).1 (hp d hd);unfold meet occ over;congr 1;rw [Bool.eq_iff_iff];simp only [Bool.or_eq_true,zp4,decide_eq_true_eq];omega
theorem b8H (h:List Call) (hl:h.length<Lg):b9I Ar.std (a0b h)=some (a4e h):=by
 have hok : ∀ i,i<=h.length->(∀ j,j<i->b0G h j=false) -> ∀ d∈h.take i,a1r d=true:=by
  intro i hi hb d hd;obtain ⟨j,hj,rfl⟩:=List.getElem_of_mem hd;have hj1:j<i/\j<h.length:=by simp at hj;omega
  have:=hb j hj1.1;rw [a4f (zp1 hj1.2),Bool.or_eq_false_iff] at this;rw [List.getElem_take];simpa using this.1
 have e0 : ∀ i c,h[i]?=some c->a1r c=true->i<=h.length->(∀ j,j<i->b0G h j=false)->iter (a8W Ar.std c.1 c.2.1 c.2.2.1 c.2.2.2.1 c.2.2.2.2.1 c.2.2.2.2.2 (a0b (h.take i))) 0=some (bif (h.take i).any (over c) then .inr () else .inl ()):=by
  intro i c hc hcok hi hb;have hlen:(h.take i).length=i:=by simp;omega
  refine a1k (h.take i) _ _ _ (fun k d hd hk => ?_) (by simp [a8W]);have hlt:(h.take i).length<9223372036854775808:=Nat.lt_of_le_of_lt (by rw [hlen];exact hi) hl;have hdok:=hok i hi hb d (List.mem_of_getElem? hd);obtain ⟨_,_,_,_,c5,c6⟩:=(a0Q c).1 hcok;obtain ⟨_,_,_,_,d5,d6⟩:=(a0Q d).1 hdok;simp only [a8W,a0x,a0p,ltC hk,cond_true,a0t hd,a0l,a0F,b4t c d (by omega),b4t d c (by omega),a0O,a0g,a0i,a0G hk hlt,over,Call.th,b1q,a6R]
 have hstop:=a9B (step:=a8X Ar.std (a0b h)) h.length (fun i=>((i:Int),enc cB (tkB (h.take i)))) (b0G h) (enc cB (tkB (h.take h.length))) (fun i hi hb => ?_) (fun hb=>by simp [a8X])
 ·unfold b9I;simp only [a0x,a0p,a4e];have e1:(0,Ar.std.rep (Int.ofNat 101) (D.bool false))=((0:Int),enc cB (tkB (h.take 0))):=by
   rw [show (D.bool false)=cB.en false from rfl,b0C];simp [tkB]
  simp only [e1];have z:((0:Nat):Int)=0:=rfl;rcases hstop with ⟨h1,_,h3⟩ | ⟨h1,x,h3⟩
  ·rw [show ((0:Int),enc cB (tkB (h.take 0)))=(((0:Nat):Int),enc cB (tkB (h.take 0))) from rfl,h3,h1];cases decide (8<(h.length:Int)) <;> rfl
  rw [show ((0:Int),enc cB (tkB (h.take 0)))=(((0:Nat):Int),enc cB (tkB (h.take 0))) from rfl,h3,h1];cases decide (8<(h.length:Int)) <;> rfl
 have hc:=zp1 hi;generalize h[i]=c at hc;have hpre:=hok i (by omega) hb;obtain ⟨t1,t2⟩:=b8G _ hpre;rw [a4f hc];simp only [a8X,a0x,a0p,ltC hi,cond_true,a0t hc,a0l,b8F];cases hcok:a1r c with
 | false=>simp only [cond_false,a0l,cond_true,Bool.not_false,Bool.true_or];exact ⟨fun h=>(by cases h),fun _=>⟨_,rfl⟩⟩
 | true =>
   obtain ⟨_,_,_,_,c5,c6⟩:=(a0Q c).1 hcok;have w0:decide (0<=c.2.2.2.2.1)=true:=by simp only [Call.fr] at c5;simp;omega
   have w1:decide (c.2.2.2.2.1<Int.ofNat 101)=true:=by simp only [Call.fr] at c5;simp;omega
   have ix:Ar.std.nat (Ar.std.zadd 0 (Ar.std.zmul c.2.2.2.2.1 (Int.ofNat 1)))=c.fr.toNat:=by simp
   have g1:gc Ar.std cB (enc cB (tkB (h.take i))) c.fr.toNat=some ((h.take i).any (occ c.fr)):=by
    refine a2U ?_;have:=t2 c.fr.toNat (by omega);rw [this,show ((c.fr.toNat:Nat):Int)=c.fr by omega]
   have g2:Ar.std.lget (enc cB (tkB (h.take i))) c.fr.toNat=some (cB.en ((h.take i).any (occ c.fr))):=by
    rw [a4Z,a4J];have:=t2 c.fr.toNat (by omega);rw [this,show ((c.fr.toNat:Nat):Int)=c.fr by omega];rfl
   have hset : ∀ (l:List Bool) (a:Nat),Ar.std.lset (enc cB l) a (D.bool true)=enc cB (l.set a true):=fun l a=>a3D l a true;rw [b6j hcok _ hpre];simp only [cond_true,a0Z,a0x,w0,w1,a4H,a0l,ix,g1,g2,Bool.not_true,Bool.false_or,hset];cases hA:(h.take i).any (occ c.fr) with
   | true=>simp only [cond_true,Bool.true_or];exact ⟨fun h=>(by cases h),fun _=>⟨_,rfl⟩⟩
   | false =>
     simp only [cond_false,jn,Bool.false_or];have hin:=e0 i c hc hcok (by omega) hb;have tk1:tkB (h.take (i+1))=tkS (tkB (h.take i)) c:=by rw [a0J hc,b1x]
     by_cases hto:0<c.2.2.2.2.2
     ·have ix2:Ar.std.nat (Ar.std.zadd 0 (Ar.std.zmul c.2.2.2.2.2 (Int.ofNat 1)))=c.to.toNat:=by simp
      have v0:decide (0<=c.2.2.2.2.2)=true:=by simp;omega
      have v1:decide (c.2.2.2.2.2<Int.ofNat 101)=true:=by simp only [Call.to] at c6;simp;omega
      have hne : ¬ c.fr.toNat=c.to.toNat:=by simp only [Call.to,Call.fr] at *;omega
      have hget:((tkB (h.take i)).set c.fr.toNat true)[c.to.toNat]?=some ((h.take i).any (occ c.to)):=by
       rw [List.getElem?_set,if_neg hne];have:=t2 c.to.toNat (by simp only [Call.to] at *;omega);rw [this,show ((c.to.toNat:Nat):Int)=c.to by simp only [Call.to] at *;omega]
      have g3:gc Ar.std cB (enc cB ((tkB (h.take i)).set c.fr.toNat true)) c.to.toNat=some ((h.take i).any (occ c.to)):=a2U hget;have g4:Ar.std.lget (enc cB ((tkB (h.take i)).set c.fr.toNat true)) c.to.toNat=some (cB.en ((h.take i).any (occ c.to))):=by
       rw [a4Z,a4J,hget];rfl
      have hS:tkS (tkB (h.take i)) c=((tkB (h.take i)).set c.fr.toNat true).set c.to.toNat true:=by simp only [tkS,Call.to,hto,decide_true,cond_true]
      simp only [hto,decide_true,cond_true,v0,v1,a4H,a0l,ix2,g3,g4,Bool.true_and,hset];cases hB:(h.take i).any (occ c.to) with
      | true=>simp only [cond_true,Bool.true_or];exact ⟨fun h=>(by cases h),fun _=>⟨_,rfl⟩⟩
      | false =>
        simp only [cond_false,Bool.false_or,a4L (Nat.le_of_lt hi),a0l,hin,tk1,hS];cases hC:(h.take i).any (over c) with
        | true=>exact ⟨fun h=>(by cases h),fun _=>⟨_,rfl⟩⟩
        | false =>
          refine ⟨fun _ => ?_,fun h=>(by cases h)⟩;simp only [cond_false,Sum.elim_inl,a0g,a0i,a0G hi hl]
     have hS:tkS (tkB (h.take i)) c=((tkB (h.take i)).set c.fr.toNat true):=by simp only [tkS,Call.to,hto,decide_false,cond_false]
     simp only [hto,decide_false,cond_false,Bool.false_and,Bool.false_or,a4L (Nat.le_of_lt hi),a0l,hin,tk1,hS];cases hC:(h.take i).any (over c) with
     | true=>exact ⟨fun h=>(by cases h),fun _=>⟨_,rfl⟩⟩
     | false =>
       refine ⟨fun _ => ?_,fun h=>(by cases h)⟩;simp only [cond_false,Sum.elim_inl,a0g,a0i,a0G hi hl]
theorem a7R (h:List Call):a4e h=true↔h.length<=8 /\ ∀ i c,h[i]?=some c->a1r c=true /\ ∀ d∈h.take i,meet c d=false:=by
 simp only [a4e,zp4,Bool.not_eq_true',decide_eq_false_iff_not,List.any_eq_false,List.mem_range];constructor
 ·rintro ⟨h1,h2⟩;refine ⟨by omega,fun i c hc => ?_⟩;have:=h2 i (zp2.1 hc).1;rw [a4f hc] at this;simp only [Bool.or_eq_true,not_or,Bool.not_eq_true,Bool.not_eq_false',List.any_eq_false] at this;exact ⟨this.1,fun d hd=>by simpa using this.2 d hd⟩
 rintro ⟨h1,h2⟩;refine ⟨by omega,fun i hi => ?_⟩;have hc:=zp1 hi;obtain ⟨q1,q2⟩:=h2 i _ hc;rw [a4f hc];simp only [q1,Bool.not_true,Bool.false_or,List.any_eq_true,not_exists,not_and,Bool.not_eq_true];exact q2
theorem a5b {h:List Call} (hv:a4e h=true):h.length<=8 /\ ∀ c∈h,a1r c=true:=by
 obtain ⟨h1,h2⟩:=(a7R h).1 hv;refine ⟨h1,fun c hc => ?_⟩;obtain ⟨i,hi,rfl⟩:=List.getElem_of_mem hc;exact (h2 i _ (zp1 hi)).1
section
variable {h:List Call}
theorem a3q (h:List Call):scalars (a0b h)=true:=by
 simp only [scalars,a0b,enc,List.all_map,List.all_eq_true];intro c _
 rfl
def c2X (m:Int) (c:Call):Call:=bif decide (m<c.to) then (c.1,c.2.1,c.2.2.1,0,c.2.2.2.2.1,0) else c
def b6k (h:List Call) (m:Int):List Call:=(h.filter fun c=>decide (c.fr<=m)).map (c2X m)
end
def TR (x y:Call):Prop:=x.fr<y.fr/\(x.to≠0->x.to≠y.to)/\(x.th=y.th->x.to≠0/\x.to<y.fr)
def TC (c:Code) (st:Int) (x:Call):Prop:=(0<=x.th/\x.th<=1)/\x.ob=0/\(0<=x.op/\x.op<c.length)/\dg x.sa/\(1<=x.fr/\x.fr<=2*st-1/\x.fr%2=1)/\((x.to=0/\x.sa=0)\/(x.fr<x.to/\x.to<=2*st/\x.to%2=0))
def opsOf (h:List Call) (t:Int):List Int:=(h.filter fun x=>decide (x.th=t)).map fun x=>x.op
structure TInv (c:Code) (u:Tab) (m:Mc):Prop where
 one : ∀ x∈m.h,TC c m.st x
 two:m.h.Pairwise TR
 ops : ∀ t:Nat,t<2->opsOf m.h t=(u.getD t []).take ((m.hd t).cl.toNat+(bif (m.hd t).inn then 1 else 0))
 le : ∀ t:Nat,t<2->(m.hd t).cl.toNat+(bif (m.hd t).inn then 1 else 0)<=(u.getD t []).length
 st0:0<=m.st
theorem b4u (c:Code) (u:Tab):TInv c u mc0 :=
 ⟨fun x hx=>by simp [mc0] at hx,List.Pairwise.nil,fun t ht=>by
  have e:mc0.hd t=hd0:=by unfold Mc.hd;split <;> rfl
  rw [e];simp [opsOf,mc0,hd0],fun t ht=>by
  have e:mc0.hd t=hd0:=by unfold Mc.hd;split <;> rfl
  rw [e];simp [hd0],Int.le_refl _⟩
theorem b4v (h:List Call) (i:Nat) (x x':Call) (hx:h[i]?=some x) (h1:x'.1=x.1) (h2:x'.2.2.1=x.2.2.1) (t:Int):opsOf (h.set i x') t=opsOf h t:=by
 have key : ∀ l:List Call,opsOf l t=((l.map fun x=>(x.1,x.2.2.1)).filter fun p=>decide (p.1=t)).map Prod.snd:=by
  intro l;unfold opsOf;rw [List.filter_map,List.map_map];rfl
 rw [key,key];congr 2;rw [List.map_set];refine List.ext_getElem? fun j => ?_;by_cases he:i=j
 ·subst he;have hl:i<(h.map fun x:Call=>(x.1,x.2.2.1)).length:=by rw [List.length_map];exact (zp2.1 hx).1
  rw [List.getElem?_set_self hl,List.getElem?_map,hx,h1,h2];rfl
 rw [List.getElem?_set_ne he]
theorem a9L (h:List Call) (x:Call) (t:Int):opsOf (h++[x]) t=bif decide (x.1=t) then opsOf h t++[x.2.2.1] else opsOf h t:=by
 unfold opsOf;rw [List.filter_append,List.map_append];by_cases hd:x.1=t <;> simp [hd]
theorem b4w {l:List Int} {n:Nat} {x:Int} (h:l[n]?=some x):l.take (n+1)=l.take n++[x]:=a0J h
section
variable {c:Code} {u:Tab} {t:Nat} {m:Mc}
structure TB (c:Code) (u:Tab) (t:Nat) (m:Mc):Prop where
 one : ∀ x∈(stB u t m).2.2.2.2.2.1,TC c (m.st+1) x/\x.to<=2*m.st
 two:(stB u t m).2.2.2.2.2.1.Pairwise TR
 ops:opsOf (stB u t m).2.2.2.2.2.1 t=(u.getD t []).take ((m.hd t).cl.toNat+1)
 oth : ∀ t':Nat,t'≠t->opsOf (stB u t m).2.2.2.2.2.1 t'=opsOf m.h t'
 pre : ∀ k:Int,k<=m.st->b6k (stB u t m).2.2.2.2.2.1 (2*k)=b6k m.h (2*k)
theorem b4x {x:Call} {st:Int} (h:TC c st x):TC c (st+1) x:=by
 obtain ⟨a,b,d,e,f,g⟩:=h;refine ⟨a,b,d,e,⟨f.1,by omega,f.2.2⟩,?_⟩;rcases g with g | g
 ·exact .inl g
 exact .inr ⟨g.1,by omega,g.2.2⟩
theorem b8I {x:Call} {st:Int} (h0:0<=st) (h:TC c st x):x.to<=2*st:=by
 obtain ⟨a,b,d,e,f,g⟩:=h;rcases g with g | g <;> omega
theorem tb (hi:MInv c u m) (hT:TInv c u m) (ht:t<2) (g:Go1 c u t m):TB c u t m:=by
 have H:=hi.hd ht;have hgd:u.getD t []=g.w:=a0H g.hu;have hst:=hT.st0;cases hin:(m.hd t).inn with
 | true =>
   have e:stB u t m=((m.hd t).r0,(m.hd t).r1,(m.hd t).r2,(m.hd t).r3,(m.hd t).at_,m.h,m.ms):=by unfold stB beg;rw [hin];rfl
   have ho:=hT.ops t ht;rw [hin] at ho;exact ⟨fun x hx=>by rw [e] at hx;exact ⟨b4x (hT.one x hx),b8I hst (hT.one x hx)⟩,by rw [e];exact hT.two,by rw [e];exact ho,fun _ _=>by rw [e],fun _ _=>by rw [e]⟩
 | false =>
   have e:stB u t m=(0,1,0,0,(m.h.length:Int),m.h++[((t:Int),0,a3p u t (m.hd t).cl,0,2*m.st+1,0)],m.ms++[0]):=by unfold stB beg;rw [hin];rfl
   have eh:(stB u t m).2.2.2.2.2.1=m.h++[((t:Int),0,a3p u t (m.hd t).cl,0,2*m.st+1,0)]:=by rw [e]
   have ho:=hT.ops t ht;rw [hin] at ho;simp only [cond_false,Nat.add_zero] at ho;refine ⟨fun x hx => ?_,?_,?_,fun t' hne => ?_,fun k hk => ?_⟩
   ·rw [eh,List.mem_append,List.mem_singleton] at hx;rcases hx with hx | rfl
    ·exact ⟨b4x (hT.one x hx),b8I hst (hT.one x hx)⟩
    refine ⟨⟨⟨by show (0:Int)<=t;omega,by show (t:Int)<=1;omega⟩,rfl,⟨g.op0,g.opc⟩,⟨Int.le_refl _,by show (0:Int)<=9;decide⟩,⟨by show 1<=2*m.st+1;omega,by show 2*m.st+1<=2*(m.st+1)-1;omega,by show (2*m.st+1)%2=1;omega⟩,.inl ⟨rfl,rfl⟩⟩,by show (0:Int)<=2*m.st;omega⟩
   ·rw [eh,List.pairwise_append];refine ⟨hT.two,List.pairwise_singleton _ _,fun x hx y hy => ?_⟩;rw [List.mem_singleton] at hy;subst hy;have h1:=hT.one x hx;have h2:=b8I hst h1;obtain ⟨_,_,_,_,f,_⟩:=h1;refine ⟨by show x.fr<2*m.st+1;omega,fun h=>h,fun hth => ?_⟩;refine ⟨fun h0 => ?_,by show x.to<2*m.st+1;omega⟩;obtain ⟨i,hlt,rfl⟩:=List.mem_iff_getElem.1 hx;have:=(H.uniq i _ (zp1 hlt) hth h0).1;rw [hin] at this;cases this
   ·rw [eh,a9L,ho,decide_eq_true rfl,cond_true,hgd];exact (b4w g.hw).symm
   ·rw [eh,a9L,decide_eq_false (by show ¬ (t:Int)=t';omega)];rfl
   rw [eh];unfold b6k;rw [List.filter_append,List.map_append];have:decide (Call.fr ((t:Int),0,a3p u t (m.hd t).cl,0,2*m.st+1,0)<=2*k)=false:=decide_eq_false (by show ¬ 2*m.st+1<=2*k;omega);simp [List.filter_cons,this]
theorem a9M (hi:MInv c u m) (hT:TInv c u m) (ht:t<2) (g:Go1 c u t m) :
  TInv c u (a0j c u [] t m) /\ ∀ k:Int,k<=m.st->b6k (a0j c u [] t m).h (2*k)=b6k m.h (2*k):=by
 have B:=c2W (u:=u) hi ht;have T:=tb hi hT ht g;have hst:=hT.st0;obtain ⟨x,hx,hx1,hx2,hx3⟩:=B.here;obtain ⟨d0,d1,d2,d3⟩:=B.reg;obtain ⟨e0,e1,e2⟩:=hi.cel;have hgd:u.getD t []=g.w:=a0H g.hu;have hcl:=g.cll;have hcl0:=g.cl0;have hhd:(a0j c u [] t m).hd t=stH c u t m:=by unfold Mc.hd a0j;simp only;split <;> rfl
 have hho : ∀ t':Nat,t'<2->t'≠t->(a0j c u [] t m).hd t'=m.hd t':=by
  intro t' h2 hne
  match t,t',ht,h2,hne with
  | 0,1,_,_,_=>rfl
  | 1,0,_,_,_=>rfl
  | 0,0,_,_,he=>exact absurd rfl he
  | 1,1,_,_,he=>exact absurd rfl he
 by_cases h7:(stL c u t m).1=7
 ·have e:stX c u t m=_:=b8z (st:=m.st+1) (cl:=(m.hd t).cl) (ln:=(m.hd t).ln) (r0:=(stB u t m).1) (r1:=(stB u t m).2.1) (r2:=(stB u t m).2.2.1) (r3:=(stB u t m).2.2.2.1) (c0:=m.c0) (c1:=m.c1) (c2:=m.c2) h7 hx;have eh:(a0j c u [] t m).h=(stB u t m).2.2.2.2.2.1.set (stB u t m).2.2.2.2.1.toNat (x.1,x.2.1,x.2.2.1,rg4 (stB u t m).1 (stB u t m).2.1 (stB u t m).2.2.1 (stB u t m).2.2.2.1 (stL c u t m).2.1,x.2.2.2.2.1,2*(m.st+1)):=by
   show (stX c u t m).2.2.2.2.2.2.2.2.2=_;rw [e]
  have ecl:(stH c u t m).cl=(m.hd t).cl+1:=by show (stX c u t m).1=_;rw [e]
  have ein:(stH c u t m).inn=false:=by show (!decide ((stL c u t m).1=7))=false;rw [decide_eq_true h7];rfl
  have hdg:=a7O (i:=(stL c u t m).2.1) d0 d1 d2 d3;generalize rg4 (stB u t m).1 (stB u t m).2.1 (stB u t m).2.2.1 (stB u t m).2.2.2.1 (stL c u t m).2.1=v at eh hdg;have hxm:=T.one x (List.mem_of_getElem? hx);generalize hI:(stB u t m).2.2.2.2.1.toNat=I at eh hx;have hlt:I<(stB u t m).2.2.2.2.2.1.length:=(zp2.1 hx).1;obtain ⟨⟨q1,q2,q3,q4,q5,q6⟩,q7⟩:=hxm;have hnew:TC c (m.st+1) (x.1,x.2.1,x.2.2.1,v,x.2.2.2.2.1,2*(m.st+1)):=by
   refine ⟨q1,q2,q3,hdg,q5,.inr ⟨?_,Int.le_refl _,?_⟩⟩
   ·show x.2.2.2.2.1<2*(m.st+1);have:=q5.2.1;simp only [Call.fr] at this;omega
   show (2*(m.st+1))%2=0;omega
  refine ⟨⟨fun y hy => ?_,?_,fun t' ht' => ?_,fun t' ht' => ?_,by rw [a3F];omega⟩,fun k hk => ?_⟩
  ·rw [eh] at hy;rw [a3F];rcases List.mem_or_eq_of_mem_set hy with hy | rfl
   ·exact (T.one y hy).1
   exact hnew
  ·rw [eh,List.pairwise_iff_getElem];intro i j hi' hj' hij;rw [List.length_set] at hi' hj';have hP:=(List.pairwise_iff_getElem.1 T.two) i j hi' hj' hij;have hmi:=(T.one _ (zp6 hi')).2;have hmj:=(T.one _ (zp6 hj')).2;rw [List.getElem_set,List.getElem_set];by_cases hIi:I=i
   ·have hIj : ¬ I=j:=by omega
    rw [if_pos hIi,if_neg hIj];subst hIi;have hxe:(stB u t m).2.2.2.2.2.1[I]=x:=(zp2.1 hx).2;rw [hxe] at hP;refine ⟨hP.1,fun _ => ?_,fun hth=>absurd hx3 (hP.2.2 hth).1⟩;show 2*(m.st+1)≠_;omega
   rw [if_neg hIi];by_cases hIj:I=j
   ·rw [if_pos hIj];subst hIj;have hxe:(stB u t m).2.2.2.2.2.1[I]=x:=(zp2.1 hx).2;rw [hxe] at hP;refine ⟨hP.1,fun _ => ?_,hP.2.2⟩;show _≠2*(m.st+1);omega
   rw [if_neg hIj];exact hP
  ·rw [eh,b4v _ _ x (x.1,x.2.1,x.2.2.1,v,x.2.2.2.2.1,2*(m.st+1)) hx rfl rfl];by_cases he:t'=t
   ·subst he;rw [hhd,ecl,ein,T.ops];congr 1;simp only [cond_false];omega
   rw [hho t' ht' he,T.oth t' he,hT.ops t' ht']
  ·by_cases he:t'=t
   ·subst he;rw [hhd,ecl,ein,hgd];simp only [cond_false];omega
   rw [hho t' ht' he];exact hT.le t' ht'
  ·rw [<-T.pre k hk,eh]

   have hcut:c2X (2*k) (x.1,x.2.1,x.2.2.1,v,x.2.2.2.2.1,2*(m.st+1))=c2X (2*k) x:=by
    have hx0:x.to=0:=hx3;have hs0:x.sa=0:=by rcases q6 with h | h <;> omega
    unfold c2X;rw [show decide (2*k<Call.to (x.1,x.2.1,x.2.2.1,v,x.2.2.2.2.1,2*(m.st+1)))=true from decide_eq_true (by show 2*k<2*(m.st+1);omega)];rw [cond_true];have:x=(x.1,x.2.1,x.2.2.1,0,x.2.2.2.2.1,0):=by
     obtain ⟨a1,a2,a3,a4,a5,a6⟩:=x;simp only [Call.to,Call.sa] at hx0 hs0;subst hx0 hs0;rfl
    cases decide (2*k<x.to) with
    | true=>rfl
    | false=>exact this.symm
   have key : ∀ (l:List Call) (i:Nat),l[i]?=some x->b6k (l.set i (x.1,x.2.1,x.2.2.1,v,x.2.2.2.2.1,2*(m.st+1))) (2*k)=b6k l (2*k):=by
    intro l
    induction l with
    | nil=>intro i hi';simp at hi'
    | cons y r ih =>
      intro i hi';cases i with
      | zero =>
        simp at hi';subst hi';rw [List.set_cons_zero];unfold b6k;rw [List.filter_cons,List.filter_cons];show List.map _ (if decide (y.fr<=2*k)=true then _ else _)=List.map _ (if decide (y.fr<=2*k)=true then _ else _)
        cases decide (y.fr<=2*k) with
        | true=>simp only [if_true,List.map_cons,hcut]
        | false=>rfl
      | succ i =>
        have:=ih i (by simpa using hi');rw [List.set_cons_succ];unfold b6k at this ⊢;rw [List.filter_cons,List.filter_cons];cases decide (y.fr<=2*k) with
        | true=>simp only [if_true,List.map_cons,this]
        | false=>exact this
   exact key _ _ hx
 obtain ⟨q1,_,_,_,q5⟩:=b0F (st:=m.st+1) (cl:=(m.hd t).cl) (ln:=(m.hd t).ln) (at_:=(stB u t m).2.2.2.2.1) (h:=(stB u t m).2.2.2.2.2.1) (a2M g.call g.hl) h7 d0 d1 d2 d3 e0 e1 e2;have ecl:(stH c u t m).cl=(m.hd t).cl:=q1;have eh:(a0j c u [] t m).h=(stB u t m).2.2.2.2.2.1:=q5;have ein:(stH c u t m).inn=true:=by show (!decide ((stL c u t m).1=7))=true;rw [decide_eq_false h7];rfl
 refine ⟨⟨fun y hy => ?_,by rw [eh];exact T.two,fun t' ht' => ?_,fun t' ht' => ?_,by rw [a3F];omega⟩,fun k hk=>by rw [eh];exact T.pre k hk⟩
 ·rw [eh] at hy;rw [a3F];exact (T.one y hy).1
 ·rw [eh];by_cases he:t'=t
  ·subst he;rw [hhd,ecl,ein,T.ops];rfl
  rw [hho t' ht' he,T.oth t' he,hT.ops t' ht']
 by_cases he:t'=t
 ·subst he;rw [hhd,ecl,ein,hgd];simp only [cond_true];omega
 rw [hho t' ht' he];exact hT.le t' ht'
end
section
variable {c:Code} {u:Tab} (hv:a1e c=true) (hu:a3E c u=true)
include hv hu
omit hv hu in
theorem b4y (l:List Call) (h : ∀ x∈l,0<=x.th/\x.th<=1):l.length=(opsOf l 0).length+(opsOf l 1).length:=by
 induction l with
 | nil=>rfl
 | cons x r ih =>
   have h1:=h x (List.mem_cons_self ..);have h2:=ih (fun y hy=>h y (List.mem_cons_of_mem _ hy));unfold opsOf at h2 ⊢;rw [List.filter_cons,List.filter_cons];rcases (by omega:x.th=0\/x.th=1) with h | h
   ·rw [if_pos (decide_eq_true h),if_neg (by simp [h])];simp only [List.map_cons,List.length_cons];omega
   rw [if_neg (by simp [h]),if_pos (decide_eq_true h)];simp only [List.map_cons,List.length_cons];omega
theorem b6l (t:Nat):(u.getD t []).length<=3:=by
 rcases Nat.lt_or_ge t u.length with h | h
 ·rw [a0H (zp1 h)];simp only [a3E,zp4,List.all_eq_true] at hu;have:=hu.2 _ (zp6 h);simp only [a4C,zp4,decide_eq_true_eq] at this;omega
 have:u.getD t []=[]:=by simp [List.getD,List.getElem?_eq_none h]
 rw [this];simp
theorem a9N {m:Mc} (hT:TInv c u m) (hs:m.st<=12):a4e m.h=true:=by
 rw [a7R];have hc4:c.length<=4:=by simp only [a1e,zp4,a0n] at hv;omega
 refine ⟨?_,fun i x hx => ?_⟩
 ·rw [b4y m.h (fun x hx=>(hT.one x hx).1)];have a:=hT.ops 0 (by decide);have b:=hT.ops 1 (by decide);have a':(opsOf m.h 0).length<=3:=by
   have:opsOf m.h 0=_:=a;rw [this,List.length_take];have:=b6l hv hu 0;omega
  have b':(opsOf m.h 1).length<=3:=by
   have:opsOf m.h 1=_:=b;rw [this,List.length_take];have:=b6l hv hu 1;omega
  omega
 obtain ⟨q1,q2,q3,q4,q5,q6⟩:=hT.one x (List.mem_of_getElem? hx);refine ⟨(a0Q x).2 ⟨by omega,by omega,by omega,q4,by omega,?_⟩,fun d hd => ?_⟩
 ·rcases q6 with h | h
  ·exact .inl h
  exact .inr ⟨h.1,by omega⟩
 obtain ⟨j,hj,rfl⟩:=List.getElem_of_mem hd;have hlt:=(zp2.1 hx).1;have hj1:j<i/\j<m.h.length:=by simp at hj;omega
 rw [List.getElem_take];have hP:=(List.pairwise_iff_getElem.1 hT.two) j i hj1.2 hlt hj1.1;have hxe:m.h[i]=x:=(zp2.1 hx).2;rw [hxe] at hP;obtain ⟨r1,r2,r3,r4,r5,r6⟩:=hT.one _ (zp6 hj1.2);generalize m.h[j]=d at hP r1 r2 r3 r4 r5 r6;obtain ⟨p1,p2,p3⟩:=hP;rw [Bool.eq_false_iff];intro hm;simp only [meet,bef,Bool.or_eq_true,zp4,decide_eq_true_eq,Bool.not_eq_true',Bool.and_eq_false_iff,decide_eq_false_iff_not] at hm;rcases hm with (h | h | h | h) | ⟨h1,h2,h3⟩
 ·omega
 ·omega
 ·omega
 ·have:=p2 (by omega);omega
 have:=p3 h1.symm;omega
end
structure MkI (m:Mc):Prop where
 rng : ∀ (i:Nat) (x:Int),m.ms[i]?=some x->0<=x/\x<=m.st
 dis : ∀ (i j:Nat) (x:Int),m.ms[i]?=some x->m.ms[j]?=some x->x≠0->i=j
theorem c4G:MkI mc0:=⟨fun i x h=>by simp [mc0] at h,fun i j x h=>by simp [mc0] at h⟩
theorem b1y {c:Code} {u:Tab} {t:Nat} {m:Mc} (mks:List Int) (hM:MkI m) (hst:0<=m.st):MkI (a0j c u mks t m):=by
 have h1 : ∀ (i:Nat) (x:Int),(stB u t m).2.2.2.2.2.2[i]?=some x->m.ms[i]?=some x\/x=0:=by
  intro i x hx;unfold stB beg at hx;cases hin:(m.hd t).inn with
  | true=>rw [hin] at hx;exact .inl hx
  | false =>
    rw [hin] at hx;replace hx:(m.ms++[0])[i]?=some x:=hx;rcases Nat.lt_or_ge i m.ms.length with h | h
    ·rw [zp7 h] at hx;exact .inl hx
    rw [zp8 h] at hx
    match hq:i-m.ms.length,hx with
    | 0,hx=>simp at hx;exact .inr hx.symm
    | k+1,hx=>simp at hx
 have hs:(a0j c u mks t m).ms=mkd mks (a3p u t (m.hd t).cl) (m.hd t).ln (stB u t m).2.2.2.2.1 (m.st+1) (stB u t m).2.2.2.2.2.2:=rfl;have hst':(a0j c u mks t m).st=m.st+1:=rfl;generalize (stB u t m).2.2.2.2.2.2=ms1 at h1 hs;generalize (stB u t m).2.2.2.2.1=k at hs;have h2 : ∀ (i:Nat) (x:Int),(a0j c u mks t m).ms[i]?=some x->(ms1[i]?=some x)\/(i=k.toNat/\x=m.st+1):=by
  intro i x hx;rw [hs] at hx;unfold mkd at hx;cases hmk:a9F mks (a3p u t (m.hd t).cl) (m.hd t).ln with
  | false=>rw [hmk] at hx;exact .inl hx
  | true =>
    rw [hmk,cond_true] at hx;by_cases hi:k.toNat=i
    ·subst hi;have hl:k.toNat<ms1.length:=by
      have:=(zp2.1 hx).1;simpa using this
     rw [List.getElem?_set_self hl] at hx;exact .inr ⟨rfl,(Option.some.inj hx).symm⟩
    rw [List.getElem?_set_ne hi] at hx;exact .inl hx
 refine ⟨fun i x hx => ?_,fun i j x hx hy hne => ?_⟩
 ·rw [hst'];rcases h2 i x hx with h | ⟨_,rfl⟩
  ·rcases h1 i x h with h | rfl
   ·have:=hM.rng i x h;omega
   omega
  omega
 rcases h2 i x hx with h | ⟨hi,hxe⟩ <;> rcases h2 j x hy with h' | ⟨hj,hye⟩
 ·rcases h1 i x h with h | h
  ·rcases h1 j x h' with h' | h'
   ·exact hM.dis i j x h h' hne
   exact absurd h' hne
  exact absurd h hne
 ·rcases h1 i x h with h | h
  ·have:=hM.rng i x h;omega
  exact absurd h hne
 ·rcases h1 j x h' with h | h
  ·have:=hM.rng j x h;omega
  exact absurd h hne
 rw [hi,hj]
def b4z (m:Mc) (k:Int):List Nat:=(List.range m.h.length).filter fun i=>decide (m.ms[i]?=some (k+1))
def a6f (m:Mc):List Nat:=(List.range m.st.toNat).flatMap fun k:Nat=>b4z m (k:Int)
def cN' (l:List Nat):List Int:=l.map fun i:Nat=>(i:Int)
def a6X (m:Mc):Bool:=m.ms.any fun x=>decide (0=x)
theorem a4g {m:Mc} {k:Int} {i:Nat}:i∈b4z m k↔i<m.h.length/\m.ms[i]?=some (k+1):=by
 unfold b4z;rw [List.mem_filter,List.mem_range,decide_eq_true_eq]
theorem a2C {m:Mc} (hI:MkI m) (hl:m.ms.length=m.h.length) {i:Nat}:i∈a6f m↔i<m.h.length/\m.ms[i]?≠some 0:=by
 unfold a6f;rw [List.mem_flatMap];constructor
 ·rintro ⟨k,hk,hi⟩;obtain ⟨h1,h2⟩:=a4g.1 hi;refine ⟨h1,fun h => ?_⟩;rw [h2] at h;have:=Option.some.inj h;omega
 rintro ⟨h1,h2⟩;have hx:m.ms[i]?=some m.ms[i]:=zp1 (by omega);have:=hI.rng i _ hx;have h0:m.ms[i]≠0:=fun e=>h2 (by rw [hx,e]);refine ⟨(m.ms[i]-1).toNat,List.mem_range.2 (by omega),a4g.2 ⟨h1,?_⟩⟩;rw [hx];congr 1;omega
def a3P (m:Mc) (i:Nat):Int:=m.ms.getD i 0
theorem a9O {m:Mc} {k:Int} {i:Nat} (h:i∈b4z m k):a3P m i=k+1:=by
 unfold a3P;rw [List.getD_eq_getElem?_getD,(a4g.1 h).2];rfl
theorem b0H {m:Mc} (hI:MkI m) (hl:m.ms.length=m.h.length):(a6f m).Pairwise fun i j=>a3P m i<a3P m j:=by
 unfold a6f;rw [List.pairwise_flatMap];refine ⟨fun k hk => ?_,?_⟩
 ·have hn:(b4z m (k:Int)).Nodup:=List.Pairwise.filter _ List.nodup_range;refine List.Pairwise.imp_of_mem (R:=fun i j=>i≠j) (fun {i j} hi hj hne => ?_) hn;exact absurd (hI.dis i j _ (a4g.1 hi).2 (a4g.1 hj).2 (by omega)) hne
 refine (List.pairwise_lt_range).imp fun {k k'} hk i hi j hj => ?_;rw [a9O hi,a9O hj];omega
theorem a7S {m:Mc} (hI:MkI m) (hl:m.ms.length=m.h.length):(a6f m).Nodup:=(b0H hI hl).imp fun {a b} h e=>by subst e;omega
theorem a5c {m:Mc}:a6X m=true ↔ ∃ i:Nat,m.ms[i]?=some 0:=by
 unfold a6X;rw [List.any_eq_true];constructor
 ·rintro ⟨x,hx,h⟩;obtain ⟨i,hi,rfl⟩:=List.mem_iff_getElem.1 hx;rw [decide_eq_true_eq] at h;exact ⟨i,by rw [zp1 hi,<-h]⟩
 rintro ⟨i,hi⟩;exact ⟨0,List.mem_of_getElem? hi,rfl⟩
theorem a5d {m:Mc} (hI:MkI m) (hl:m.ms.length=m.h.length) (hz:a6X m=false):(a6f m).Perm (List.range m.h.length):=by
 refine (List.perm_ext_iff_of_nodup (a7S hI hl) List.nodup_range).2 fun i => ?_;rw [a2C hI hl,List.mem_range];refine ⟨fun h=>h.1,fun h=>⟨h,fun h0 => ?_⟩⟩;have:=a5c.2 ⟨i,h0⟩;rw [hz] at this;cases this
theorem b0I {m:Mc} (hI:MkI m) (hl:m.ms.length=m.h.length) (hz:a6X m=false) (le:Int->Int->Bool) (hle : ∀ i j:Nat,i<m.h.length->j<m.h.length->le (i:Int) (j:Int)=decide (a3P m i<=a3P m j)) :
  (cN' (List.range m.h.length)).mergeSort le=cN' (a6f m):=by
 have h1:((List.range m.h.length).mergeSort fun i j=>decide (a3P m i<=a3P m j)).map (fun i:Nat=>(i:Int))=(cN' (List.range m.h.length)).mergeSort le :=
  List.map_mergeSort fun a ha b hb=>(hle a b (List.mem_range.1 ha) (List.mem_range.1 hb)).symm
 rw [<-h1];unfold cN';congr 1;have hs:=List.pairwise_mergeSort (le:=fun i j:Nat=>decide (a3P m i<=a3P m j)) (fun a b c h h'=>by simp only [decide_eq_true_eq] at *;omega) (fun a b=>by simp only [Bool.or_eq_true,decide_eq_true_eq];omega) (List.range m.h.length);have hp:=(List.mergeSort_perm (List.range m.h.length) fun i j=>decide (a3P m i<=a3P m j)).trans (a5d hI hl hz).symm;refine hp.eq_of_pairwise (le:=fun i j=>a3P m i<=a3P m j) (fun i j hi hj h h' => ?_) (hs.imp fun {a b} h=>by simpa using h) ((b0H hI hl).imp fun {a b} h=>by omega);have hi':=(a2C hI hl).1 (hp.mem_iff.1 hi);have hj':=(a2C hI hl).1 hj;have e1:m.ms[i]?=some (a3P m i):=by unfold a3P;rw [List.getD_eq_getElem?_getD,zp1 (by omega)];rfl
 have e2:m.ms[j]?=some (a3P m j):=by unfold a3P;rw [List.getD_eq_getElem?_getD,zp1 (by omega)];rfl
 have e3:a3P m i=a3P m j:=by omega
 rw [<-e3] at e2;exact hI.dis i j _ e1 e2 (fun h0=>hi'.2 (by rw [e1,h0]))
theorem c1j (l:List Int) (x:Int) (hl:l.length<Lg):Z95 Ar.std (a0d l) x=some (l.any fun a=>decide (x=a)):=by
 have e:iter (a8Z Ar.std (a0d l) x) 0=some ((l.findIdx? fun a=>decide (x=a)).elim (.inl ()) (fun i => .inr (i:Int))):=by
  refine a1o l _ _ _ (fun i n hn hi => ?_) ?_
  ·unfold a8Z;refine cnT (by simp;omega) (bt (a0t hn) ?_);cases hd:decide (x=n) with
   | true=>exact cnT hd rfl
   | false=>exact cnF hd (by simp only [a0g,a0i,a0G hi hl];rfl)
  unfold a8Z;exact cnF (by simp) rfl
 simp only [Z95,c2D,e,a0l,a1p,a0Z,a2g]
def a0S (u:Tab) (m:Mc):Bool:=(a0y u m).isEmpty
def a5U (u:Tab) (m:Mc):Bool:=a0S u m && !a6X m
theorem b4A {u:Tab} (x1:List D) (m:Mc) (h2:u.length<=2):Z55 Ar.std x1 (a0r u) m.a.cl m.a.ln m.a.r0 m.a.r1 m.a.r2 m.a.r3 m.a.at_ m.b.cl m.b.ln m.b.r0 m.b.r1 m.b.r2 m.b.r3 m.b.at_ m.c0 m.c1 m.c2 m.st (a0b m.h) (a0d m.ms)=some (a0d (a0y u m)):=by
 unfold Z55;refine bt (b4p (n:=u.length) h2 (fun t=>a3b u t m) id (fun i o hi ho => ?_) (fun o => ?_)) rfl
 ·unfold b5u;refine cnT (by simp;omega) (bt (c1d x1 h2 (i:Int)) (bt (v:=a0d (bif a3b u (i:Int) m then o++[(i:Int)] else o)) ?_ ?_))
  ·cases a3b u (i:Int) m with
   | false=>rfl
   | true=>exact cnT rfl (bt (a1y (c:=cI .i64) rfl (by omega)) rfl)
  simp only [a0g,a0i,a0G hi (by omega)]
 unfold b5u;exact cnF (by simp) rfl
theorem a2X {m:Mc} {i:Nat} (h:i<m.ms.length):m.ms[i]?=some (a3P m i):=by
 unfold a3P;rw [List.getD_eq_getElem?_getD,zp1 h];rfl
section
variable {m:Mc} (hI:MkI m) (hl:m.ms.length=m.h.length) (hs:m.st<=100)
include hI hl hs
theorem a9P {i:Nat} (h:i<m.h.length):0<=a3P m i/\a3P m i<=100:=by
 have:=hI.rng i _ (a2X (by omega));omega
theorem c1k (x3 x4:List D) (y1 y2 y3 y4 y5 y6 y7 y8 y9 y10 y11 y12 y13 y14 y15 y16 y17 y18:Int) (x23:List D) {i j:Nat} (hi:i<m.h.length) (hj:j<m.h.length) :
  Z97 Ar.std (i:Int) (j:Int) x3 x4 y1 y2 y3 y4 y5 y6 y7 y8 y9 y10 y11 y12 y13 y14 y15 y16 y17 y18 x23 (a0d m.ms)=some (a3P m i-a3P m j):=by
 have b1:=a9P hI hl hs hi;have b2:=a9P hI hl hs hj;unfold Z97;refine bt (a0t (a2X (by omega))) (bt (a0t (a2X (by omega))) ?_);simp only [a0g,a0D];rw [a8P _ (by omega) (by omega)]
theorem b4B (f:Int->Int->Option Int) (hf : ∀ i j:Nat,i<m.h.length->j<m.h.length->f (i:Int) (j:Int)=some (a3P m i-a3P m j)) (hz:a6X m=false):CmpOk f (cN' (List.range m.h.length)):=by
 have mem : ∀ x∈cN' (List.range m.h.length),∃ i:Nat,x=(i:Int)/\i<m.h.length:=by
  intro x hx;obtain ⟨i,hi,rfl⟩:=List.mem_map.1 hx;exact ⟨i,rfl,List.mem_range.1 hi⟩
 have lt : ∀ i j:Nat,i<m.h.length->j<m.h.length->ltF f (i:Int) (j:Int)=decide (a3P m i<a3P m j):=by
  intro i j hi hj;unfold ltF;rw [hf i j hi hj];exact decide_eq_decide.2 (by omega)
 refine ⟨fun x hx y hy => ?_,fun x hx => ?_,fun x hx y hy z hz' h1 h2 => ?_,fun x hx y hy h1 h2 => ?_⟩
 ·obtain ⟨i,rfl,hi⟩:=mem x hx;obtain ⟨j,rfl,hj⟩:=mem y hy;exact ⟨_,hf i j hi hj⟩
 ·obtain ⟨i,rfl,hi⟩:=mem x hx;rw [lt i i hi hi];simp
 ·obtain ⟨i,rfl,hi⟩:=mem x hx;obtain ⟨j,rfl,hj⟩:=mem y hy;obtain ⟨k,rfl,hk⟩:=mem z hz';rw [lt i j hi hj,decide_eq_true_eq] at h1;rw [lt j k hj hk,decide_eq_true_eq] at h2;rw [lt i k hi hk,decide_eq_true_eq];omega
 obtain ⟨i,rfl,hi⟩:=mem x hx;obtain ⟨j,rfl,hj⟩:=mem y hy;rw [lt i j hi hj,decide_eq_false_iff_not] at h1;rw [lt j i hj hi,decide_eq_false_iff_not] at h2;have e:a3P m i=a3P m j:=by omega
 have e1:=a2X (m:=m) (i:=i) (by omega);have e2:=a2X (m:=m) (i:=j) (by omega);rw [<-e] at e2;by_cases h0:a3P m i=0
 ·exfalso;have:=a5c.2 ⟨i,by rw [e1,h0]⟩;rw [hz] at this;cases this
 rw [hI.dis i j _ e1 e2 h0]
theorem c1l {u:Tab} (h2:u.length<=2) (hh:m.h.length<=100) (x1:List D) :
  Z56 Ar.std x1 (a0r u) m.a.cl m.a.ln m.a.r0 m.a.r1 m.a.r2 m.a.r3 m.a.at_ m.b.cl m.b.ln m.b.r0 m.b.r1 m.b.r2 m.b.r3 m.b.at_ m.c0 m.c1 m.c2 m.st (a0b m.h) (a0d m.ms)=some (bif a5U u m then (a0d (cN' (a6f m)),true) else ([],false)):=by
 unfold Z56;refine bt (v := !a5U u m) ?_ ?_
 ·refine bt (b4A x1 m h2) ?_;unfold a5U a0S;cases hl2:a0y u m with
  | nil=>exact cnF rfl (bt (c1j m.ms 0 (Nat.lt_of_le_of_lt (by omega:m.ms.length<=100) (by show 100<9223372036854775808;decide))) (by unfold a6X;simp))
  | cons t r=>exact cnT (by simp <;> omega) rfl
 cases hok:a5U u m with
 | false=>rfl
 | true =>
   have hz:a6X m=false:=by
    unfold a5U at hok;rw [zp4] at hok;simpa using hok.2
   refine cnF rfl ?_;have c1 : ∀ a:Bool,a=true->ck a=some ():=fun a h=>by rw [h];rfl
   refine bt (v:=()) (c1 _ (by simp)) (bt (v:=()) (c1 _ (by simp)) (bt (v:=()) (c1 _ (by simp;omega)) ?_));obtain ⟨s,hs',e⟩:=a3C (step:=b3h Ar.std (a0b m.h)) m.h.length (fun (s:List Int) (i:Nat)=>((i:Int),a0d s)) (fun i s=>s=cN' (List.range i)) (fun s=>a0d s)
    (fun i s hi hR=>by
     subst hR;refine ⟨cN' (List.range (i+1)),rfl,?_⟩;unfold b3h;refine cnT (by simp;omega) (bt (a1y (c:=cI .i64) rfl (by unfold cN';simp;omega)) ?_);simp only [a0g,a0i,a0G (i:=i) (n:=200) (by omega) (by decide)];rw [List.range_succ];unfold cN';rw [List.map_append];rfl)
    (fun s _=>by unfold b3h;exact cnF (by simp) rfl) [] rfl
   subst hs';refine bt e ?_;have hlen:(cN' (List.range m.h.length)).length=m.h.length:=by unfold cN';simp
   by_cases h0:m.h.length=0
   ·refine cnF (by rw [a0p,hlen];simp [h0]) ?_;have hp:=(a5d hI hl hz).length_eq;rw [List.length_range,h0] at hp;have e0:a6f m=[]:=List.eq_nil_of_length_eq_zero hp;rw [h0,e0];exact bt (v:=()) rfl rfl
   refine cnT (by rw [a0p,hlen];simp;omega) ?_;have hf:=fun (i j:Nat) hi hj=>c1k hI hl hs x1 (a0r u) m.a.cl m.a.ln m.a.r0 m.a.r1 m.a.r2 m.a.r3 m.a.at_ m.b.cl m.b.ln m.b.r0 m.b.r1 m.b.r2 m.b.r3 m.b.at_ m.c0 m.c1 m.c2 m.st (a0b m.h) (i:=i) (j:=j) hi hj;have hc:=b4B hI hl hs (fun a0 b0=>Z97 Ar.std a0 b0 x1 (a0r u) m.a.cl m.a.ln m.a.r0 m.a.r1 m.a.r2 m.a.r3 m.a.at_ m.b.cl m.b.ln m.b.r0 m.b.r1 m.b.r2 m.b.r3 m.b.at_ m.c0 m.c1 m.c2 m.st (a0b m.h) (a0d m.ms)) hf hz;have e1:=b7n (c:=cI .i64) (n:=(m.h.length:Int)) (xs:=cN' (List.range m.h.length)) (by rw [hlen]) (by omega) hc;rw [b0I hI hl hz _ (fun i j hi hj=>by
    unfold ltF;simp only [hf j i hj hi];rw [Bool.eq_iff_iff];simp only [Bool.not_eq_true',decide_eq_false_iff_not,decide_eq_true_eq];omega)] at e1
   refine bt (v:=a0d (cN' (a6f m))) ?_ ?_
   ·unfold Z96;rw [a0p,hlen];exact e1
   have hp:=(a5d hI hl hz).length_eq;rw [List.length_range] at hp;refine bt (v:=a0d (cN' (a6f m))) ?_ rfl;rw [a0p,hlen];unfold fz;have hlo:(cN' (a6f m)).length=m.h.length:=by unfold cN';rw [List.length_map,hp]
   refine cnT (by rw [a0p,hlo];simp) ?_;simp only [a0i,b4k,Int.zero_add,Int.toNat_zero,List.drop_zero,Nat.sub_zero,Int.toNat_natCast];rw [List.take_of_length_le (by rw [b2u,hlo];exact Nat.le_refl _)]
end
section
variable {m:Mc} (hI:MkI m) (hl:m.ms.length=m.h.length) (hs:m.st<=100) (hs0:0<=m.st) (hh:m.h.length<=100)
include hI hl hs hs0 hh
end
end Go.Am
