import Derived.Test.YtkjeamngjnfpkaaGreatAmLaw
set_option linter.unusedSimpArgs false
namespace Go.Am
open Go
theorem b0J (n:Nat) (h:n<256):IntKind.u8.wrap (n:Int)=(n:Int):=u8w _ (by omega) (by omega)
theorem bv8 (n:Nat) (h:n<256):(BitVec.ofInt 8 (n:Int)).toNat=n:=by
 rw [BitVec.toNat_ofInt];omega
theorem c1p (a b:Nat) (ha:a<256) (hb:b<256):a2e .and .u8 (a:Int) (b:Int)=((a &&& b:Nat):Int):=by
 have:(BitVec.ofInt IntKind.u8.bits (a:Int) &&& BitVec.ofInt IntKind.u8.bits (b:Int)).toNat=a &&& b:=by
  rw [BitVec.toNat_and];show (BitVec.ofInt 8 (a:Int)).toNat &&& (BitVec.ofInt 8 (b:Int)).toNat=_;rw [bv8 a ha,bv8 b hb]
 simp only [a2e,this];exact b0J _ (Nat.lt_of_le_of_lt Nat.and_le_left ha)
theorem c1q {a b n:Nat} (ha:a<2 ^ n) (hb:b<2 ^ n):a ||| b<2 ^ n:=Nat.or_lt_two_pow ha hb
theorem c4H (a b:Nat) (ha:a<256) (hb:b<256):a2e .or .u8 (a:Int) (b:Int)=((a ||| b:Nat):Int):=by
 have:(BitVec.ofInt IntKind.u8.bits (a:Int) ||| BitVec.ofInt IntKind.u8.bits (b:Int)).toNat=a ||| b:=by
  rw [BitVec.toNat_or];show (BitVec.ofInt 8 (a:Int)).toNat ||| (BitVec.ofInt 8 (b:Int)).toNat=_;rw [bv8 a ha,bv8 b hb]
 simp only [a2e,this];exact b0J _ (c1q (n:=8) ha hb)
theorem c1r (a i:Nat) (hi:i<=8):((a:Int).fdiv (2 ^ (min ((i:Int).toNat) IntKind.u8.bits)))=((a / 2 ^ i:Nat):Int):=by
 have:min ((i:Int).toNat) IntKind.u8.bits=i:=by show min _ 8=i;omega
 have hp:(0:Int)<=2 ^ i:=Int.pow_nonneg (by decide);rw [this,Int.fdiv_eq_ediv_of_nonneg _ hp];simp
theorem c1s (i:Nat) (hi:i<8):IntKind.u8.wrap (1*2 ^ (min ((i:Int).toNat) IntKind.u8.bits))=((2 ^ i:Nat):Int):=by
 have:min ((i:Int).toNat) IntKind.u8.bits=i:=by show min _ 8=i;omega
 rw [this];have h2:(2:Nat) ^ i<256:=Nat.pow_lt_pow_right (by decide:1<2) hi;have:=b0J _ h2;simpa using this
theorem c1t (m i:Nat) (hm:m<256) (hi:i<=8):decide (a2e .and .u8 ((m:Int).fdiv (2 ^ (min ((i:Int).toNat) IntKind.u8.bits))) 1=1)=m.testBit i:=by
 have hd:m / 2 ^ i<256:=Nat.lt_of_le_of_lt (Nat.div_le_self _ _) hm;have h1:a2e .and .u8 ((m / 2 ^ i:Nat):Int) 1=((m / 2 ^ i &&& 1:Nat):Int):=c1p _ 1 hd (by decide);rw [c1r m i hi,h1,Nat.and_one_is_mod,Nat.testBit_eq_decide_div_mod_eq];rw [decide_eq_decide];omega
def ins (m i:Nat):Nat:=m ||| 2 ^ i
theorem c1u (m i:Nat) (hm:m<256) (hi:i<8):a2e .or .u8 (m:Int) (IntKind.u8.wrap (1*2 ^ (min ((i:Int).toNat) IntKind.u8.bits)))=((ins m i:Nat):Int):=by
 rw [c1s i hi];exact c4H m _ hm (Nat.pow_lt_pow_right (by decide:1<2) hi)
theorem b7z {m i n:Nat} (hm:m<2 ^ n) (hi:i<n):ins m i<2 ^ n:=c1q hm (Nat.pow_lt_pow_right (by decide:1<2) hi)
theorem a2D (m i j:Nat):(ins m i).testBit j=(m.testBit j||decide (i=j)):=by
 unfold ins;rw [Nat.testBit_or,Nat.testBit_two_pow]
end Go.Am
