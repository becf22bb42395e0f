/- Own text: EL3. -/
import Derived.Test.YtalfdjihejohoaaEL2
import Derived.Test.YtalfdjihejohoaaGenp0
set_option maxRecDepth 100000
set_option linter.unusedVariables false
set_option linter.unusedSimpArgs false
set_option linter.unusedSectionVars false
namespace Go.Am
open Go Go.Proofs
theorem and1_i64 (a:Nat) (ha:a<2 ^ 62):bitsStd .and .i64 (a:Int) 1=((a &&& 1:Nat):Int):=by
 have bv : ∀ n:Nat,n<2 ^ 62->(BitVec.ofInt 64 (n:Int)).toNat=n:=fun n h=>by
  rw [BitVec.toNat_ofInt];simp;omega
 have h1:a &&& 1<=1:=Nat.and_le_right
 show IntKind.i64.wrap ((BitVec.ofInt 64 (a:Int) &&& BitVec.ofInt 64 ((1:Nat):Int)).toNat:Int)=_
 rw [BitVec.toNat_and,bv a ha,bv 1 (by decide)]
 exact i64w _ (by omega) (by omega)
theorem bit_i64 (m i:Nat) (hm:m<2 ^ 62) (hi:i<=62):decide (bitsStd .and .i64 ((m:Int).fdiv (2 ^ (min ((i:Int).toNat) IntKind.i64.bits))) 1=1)=m.testBit i:=by
 have hb:IntKind.i64.bits=64:=rfl
 have e:((m:Int).fdiv (2 ^ (min ((i:Int).toNat) IntKind.i64.bits)))=((m / 2 ^ i:Nat):Int):=by
  rw [hb,Int.toNat_natCast,Nat.min_eq_left (by omega),Int.fdiv_eq_ediv_of_nonneg _ (by exact Int.pow_nonneg (by decide))]
  push_cast;rfl
 have hlt:m / 2 ^ i<2 ^ 62:=Nat.lt_of_le_of_lt (Nat.div_le_self _ _) hm
 rw [e,and1_i64 _ hlt,Nat.testBit_eq_decide_div_mod_eq,Nat.and_one_is_mod]
 refine decide_eq_decide.2 ⟨fun h => ?_,fun h => ?_⟩ <;> omega
abbrev codF:Cod Fen:=cG (lc (cI .i64) (l1 (cI .i64)))
theorem un_fen (a:Fen):codF.un (dFen a)=some a:=by simp [dFen,I]
theorem gt_fen {l:List Fen} {i:Nat} {a:Fen} (h:l[i]?=some a):gt Ar.std codF (l.map dFen) (i:Int)=some a:=by rw [gt_at h,un_fen]
theorem ltFn {l:List Fen} {i:Nat} (h:i<l.length):Ar.std.zlt (i:Int) (Ar.std.len (l.map dFen))=true:=by simp;omega
theorem geF {l:List Fen}:Ar.std.zlt (l.length:Int) (Ar.std.len (l.map dFen))=false:=by simp
theorem incF {i n:Nat} (h:i<n) (hn:n<9223372036854775808):Ar.std.wrp .i64 (Ar.std.zadd (i:Int) 1)=((i+1:Nat):Int):=i64w1 h hn
theorem E99L0_eq (r:List Fen) (hr:r.length<=61) (i:Nat) (hi:i<2 ^ 62):iter (E99L0 Ar.std (r.map dFen) (i:Int)) ([],0)=some ((pkL i 0 r).map dFen):=by
 have key:=iter_pre (step:=E99L0 Ar.std (r.map dFen) (i:Int)) r (fun pre=>pkL i 0 pre) (fun s k=>(s.map dFen,(k:Int))) (fun s=>s.map dFen)
  (fun k a ha hk=>by
   have hle:(pkL i 0 (r.take k)).length<=61:=Nat.le_trans (pkL_sub i _ 0).length_le (by simp;omega)
   have hn:nk (Ar.std.zlt (k:Int) 0)=some ():=by
    have:Ar.std.zlt (k:Int) 0=false:=by simp
    rw [this];rfl
   have hbit:Ar.std.zeq (Ar.std.bits .and .i64 (Ar.std.shr .i64 (i:Int) (k:Int)) 1) 1=i.testBit k:=bit_i64 i k hi (by omega)
   have hap:ap Ar.std ((pkL i 0 (r.take k)).map dFen) [.agg [.int .i64 a.1,.int .i64 a.2]]=some ((pkL i 0 (r.take k)++[a]).map dFen):=ap_one dFen _ a _ rfl (by omega)
   have htk:(r.take k).length=k:=by simp;omega
   unfold E99L0
   try dsimp only
   rw [ltFn hk,cond_true,gt_fen ha,bsome]
   try dsimp only
   rw [hn,bsome,hbit,incF hk (by omega),pkL_snoc,Nat.zero_add,htk]
   cases i.testBit k with
   | true=>rw [cond_true,hap,bsome,bsome];rfl
   | false=>rw [cond_false,bsome,cond_false,List.append_nil])
  (by
   unfold E99L0
   try dsimp only
   rw [geF,cond_false])
 exact key
theorem E91_eq (l:List Fen) (p:List Sta) (hl:l.length<=1000000000) (hp:p.length<=1000000000):E91 Ar.std (l.map dFen) (p.map dSta)=some (enoughF l p):=by
 unfold E91 ofF
 rw [dec_eq dFen_inj (show LenOk 1000000000 l from hl),bsome,dec_eq dSta_inj' (show LenOk 1000000000 p from hp)];rfl
theorem E94_eq (c:List (List Int)) (l:List Fen) (hc:CostOk c) (hl:l.length<=1000000000) (h9 : ∀ r∈c,∀ n∈r,0<=n/\n<=9) (hin : ∀ f∈l,inCost c f):E94 Ar.std (c.map dRow) (l.map dFen)=some (costF c l):=by
 unfold E94 ofF ofC
 rw [dec_eq dRow_inj hc,bsome,dec_eq dFen_inj (show LenOk 1000000000 l from hl),bsome,if_pos ⟨h9,hin⟩]
section
variable {x:List (List Acc)} {c:List (List Int)} {q:List Sta} (hS:Small x/\(stations x).length<=4000000000) (hm:(fencesL x).length<=61) (hc:CostOk c) (hp:pricedB x c=true)
  (hq:q.length<=1000000000) (hall:enoughF (fencesL x) q=true)
include hS hm hc hp hq hall
end
end Go.Am
