/-
  PLAIN LAWS: what math/bits.OnesCount64 reckons is how many bits are set: byte by byte.
-/
import Derived.Test.YtkmklmdhmfikmaaDoorU
namespace Go.Proofs.YtkmklmdhmfikmaaDoor
open Go.RowKit

/-- The categories of a set, rising. -/
def cats (x : BitVec 64) : List Nat := (List.range 64).filter fun k : Nat => has x (k : Int)
def pc (x : BitVec 64) : Nat := (cats x).length

namespace Pop
def mk (b : Nat) : Nat → Nat
  | 0 => 0
  | k + 1 => 256 * mk b k + b
theorem and_split (a b c d : Nat) (hb : b < 256) (hd : d < 256) : (256 * a + b) &&& (256 * c + d) = 256 * (a &&& c) + (b &&& d) := by
  have h1 : ((256 * a + b) &&& (256 * c + d)) / 2 ^ 8 = a &&& c := by
    rw [Nat.and_div_two_pow]; congr 1 <;> omega
  have h2 : ((256 * a + b) &&& (256 * c + d)) % 2 ^ 8 = b &&& d := by
    rw [Nat.and_mod_two_pow]; congr 1 <;> omega
  omega
def s1 (l : Nat) : Nat := (l / 2 &&& 0x55) + (l &&& 0x55)
def s2 (l : Nat) : Nat := (l / 4 &&& 0x33) + (l &&& 0x33)
def s3 (l : Nat) : Nat := (l / 16 + l) &&& 0x0f
def pop8 (l : Nat) : Nat := ((List.range 8).filter fun i => l.testBit i).length
theorem byte (l : Nat) (h : l < 256) : s1 l < 256 ∧ s2 (s1 l) < 72 ∧ s2 (s1 l) % 16 ≤ 4 ∧ s3 (s2 (s1 l)) = pop8 l ∧ pop8 l ≤ 8 := by
  have : ∀ l : Fin 256, s1 l.1 < 256 ∧ s2 (s1 l.1) < 72 ∧ s2 (s1 l.1) % 16 ≤ 4 ∧ s3 (s2 (s1 l.1)) = pop8 l.1 ∧ pop8 l.1 ≤ 8 := by decide +kernel
  exact this ⟨l, h⟩
theorem low55 (a z : Nat) (ha : a < 2) (hz : z < 128) : (128 * a + z) &&& 0x55 = z &&& 0x55 := by
  have : ∀ (a : Fin 2) (z : Fin 128), (128 * a.1 + z.1) &&& 0x55 = z.1 &&& 0x55 := by decide +kernel
  exact this ⟨a, ha⟩ ⟨z, hz⟩
theorem low33 (a z : Nat) (ha : a < 4) (hz : z < 64) : (64 * a + z) &&& 0x33 = z &&& 0x33 := by
  have : ∀ (a : Fin 4) (z : Fin 64), (64 * a.1 + z.1) &&& 0x33 = z.1 &&& 0x33 := by decide +kernel
  exact this ⟨a, ha⟩ ⟨z, hz⟩
theorem low0f (a z : Nat) : (16 * a + z) &&& 0x0f = z &&& 0x0f := by
  have h : ∀ n : Nat, n &&& 0x0f = n % 16 := fun n => Nat.and_two_pow_sub_one_eq_mod n 4
  rw [h, h]; omega
def S1 (k n : Nat) : Nat := (n / 2 &&& mk 0x55 k) + (n &&& mk 0x55 k)
def S2 (k n : Nat) : Nat := (n / 4 &&& mk 0x33 k) + (n &&& mk 0x33 k)
def S3 (k n : Nat) : Nat := (n / 16 + n) &&& mk 0x0f k
theorem mk_succ (b k : Nat) : mk b (k + 1) = 256 * mk b k + b := rfl
theorem S1_succ (k h l : Nat) (hl : l < 256) : S1 (k + 1) (256 * h + l) = 256 * S1 k h + s1 l := by
  unfold S1 s1
  rw [mk_succ]
  have e : (256 * h + l) / 2 = 256 * (h / 2) + (128 * (h % 2) + l / 2) := by omega
  rw [e, and_split _ _ _ _ (by omega) (by omega), and_split _ _ _ _ hl (by omega), low55 _ _ (by omega) (by omega)]
  omega
theorem S2_succ (k h l : Nat) (hl : l < 256) : S2 (k + 1) (256 * h + l) = 256 * S2 k h + s2 l := by
  unfold S2 s2
  rw [mk_succ]
  have e : (256 * h + l) / 4 = 256 * (h / 4) + (64 * (h % 4) + l / 4) := by omega
  rw [e, and_split _ _ _ _ (by omega) (by omega), and_split _ _ _ _ hl (by omega), low33 _ _ (by omega) (by omega)]
  omega
theorem S3_succ (k h l : Nat) (hl : l < 72) (hh : h % 16 ≤ 4) : S3 (k + 1) (256 * h + l) = 256 * S3 k h + s3 l := by
  unfold S3 s3
  rw [mk_succ]
  have e : (256 * h + l) / 16 + (256 * h + l) = 256 * (h / 16 + h) + (16 * (h % 16) + (l / 16 + l)) := by omega
  rw [e, and_split _ _ _ _ (by omega) (by omega), low0f]
def T (k n : Nat) : Nat := S3 k (S2 k (S1 k n))
theorem S_zero (n : Nat) : S1 0 n = 0 ∧ S2 0 n = 0 ∧ S3 0 n = 0 := by
  simp [S1, S2, S3, mk]
theorem nib (k n : Nat) : S2 k (S1 k n) % 16 ≤ 4 := by
  cases k with
  | zero => rw [(S_zero _).2.1]; omega
  | succ k =>
    have e : n = 256 * (n / 256) + n % 256 := by omega
    have hb := byte (n % 256) (by omega)
    rw [e, S1_succ _ _ _ (by omega), S2_succ _ _ _ hb.1]
    omega
theorem T_succ (k h l : Nat) (hl : l < 256) : T (k + 1) (256 * h + l) = 256 * T k h + pop8 l := by
  have hb := byte l hl
  unfold T
  rw [S1_succ _ _ _ hl, S2_succ _ _ _ hb.1, S3_succ _ _ _ hb.2.1 (nib _ _), hb.2.2.2.1]
/-- so many of the first 8 k bits are set -/
def cnt (k n : Nat) : Nat := ((List.range (8 * k)).filter fun i => n.testBit i).length
theorem cnt_succ (k h l : Nat) (hl : l < 256) : cnt (k + 1) (256 * h + l) = cnt k h + pop8 l := by
  unfold cnt pop8
  have e : 8 * (k + 1) = 8 + 8 * k := by omega
  rw [e, List.range_add, List.filter_append, List.length_append]
  have lo : ∀ i, i < 8 → (256 * h + l).testBit i = l.testBit i := fun i hi => by
    have : 256 * h + l = 2 ^ 8 * h + l := by omega
    rw [this, Nat.testBit_two_pow_mul_add _ (by omega), if_pos hi]
  have hi : ∀ i, (256 * h + l).testBit (8 + i) = h.testBit i := fun i => by
    have : 256 * h + l = 2 ^ 8 * h + l := by omega
    rw [this, Nat.testBit_two_pow_mul_add _ (by omega), if_neg (by omega)]
    congr 1; omega
  have a1 : (List.range 8).filter (fun i => (256 * h + l).testBit i) = (List.range 8).filter fun i => l.testBit i :=
    List.filter_congr fun i hm => lo i (by simpa using hm)
  rw [a1, List.filter_map, List.length_map]
  have a2 : (List.range (8 * k)).filter ((fun i => (256 * h + l).testBit i) ∘ fun x => 8 + x) = (List.range (8 * k)).filter fun i => h.testBit i :=
    List.filter_congr fun i _ => hi i
  rw [a2]; omega
theorem nest (p0 p1 p2 p3 p4 p5 p6 p7 : Nat) : 256 * (256 * (256 * (256 * (256 * (256 * (256 * (256 * 0 + p7) + p6) + p5) + p4) + p3) + p2) + p1) + p0 = p0 + 256 * p1 + 65536 * p2 + 16777216 * p3 + 4294967296 * p4 + 1099511627776 * p5 + 281474976710656 * p6 + 72057594037927936 * p7 := by
  omega
theorem fold_sum (p0 p1 p2 p3 p4 p5 p6 p7 : Nat) (b0 : p0 ≤ 8) (b1 : p1 ≤ 8) (b2 : p2 ≤ 8) (b3 : p3 ≤ 8) (b4 : p4 ≤ 8) (b5 : p5 ≤ 8) (b6 : p6 ≤ 8) (b7 : p7 ≤ 8) (Y : Nat)
    (hY : Y = p0 + 256 * p1 + 65536 * p2 + 16777216 * p3 + 4294967296 * p4 + 1099511627776 * p5 + 281474976710656 * p6 + 72057594037927936 * p7) :
    Y + Y / 256 < 18446744073709551616 ∧ (Y + Y / 256) + (Y + Y / 256) / 65536 < 18446744073709551616 ∧
    ((Y + Y / 256) + (Y + Y / 256) / 65536) + ((Y + Y / 256) + (Y + Y / 256) / 65536) / 4294967296 < 18446744073709551616 ∧
    (((Y + Y / 256) + (Y + Y / 256) / 65536) + ((Y + Y / 256) + (Y + Y / 256) / 65536) / 4294967296) % 128 = 0 + p7 + p6 + p5 + p4 + p3 + p2 + p1 + p0 := by
  have q : Y / 256 = p1 + 256 * p2 + 65536 * p3 + 16777216 * p4 + 4294967296 * p5 + 1099511627776 * p6 + 281474976710656 * p7 := by omega
  rw [q]
  obtain ⟨Z, hZ⟩ : ∃ Z, Z = Y + (p1 + 256 * p2 + 65536 * p3 + 16777216 * p4 + 4294967296 * p5 + 1099511627776 * p6 + 281474976710656 * p7) := ⟨_, rfl⟩
  rw [← hZ]
  have r : Z / 65536 = (p2 + p3) + 256 * (p3 + p4) + 65536 * (p4 + p5) + 16777216 * (p5 + p6) + 4294967296 * (p6 + p7) + 1099511627776 * p7 := by
    rw [hZ, hY]; clear hZ hY q; omega
  rw [r]
  obtain ⟨V, hV⟩ : ∃ V, V = Z + ((p2 + p3) + 256 * (p3 + p4) + 65536 * (p4 + p5) + 16777216 * (p5 + p6) + 4294967296 * (p6 + p7) + 1099511627776 * p7) := ⟨_, rfl⟩
  rw [← hV]
  have t : V / 4294967296 = (p4 + p5 + p6 + p7) + 256 * (p5 + p6 + p7) + 65536 * (p6 + p7) + 16777216 * p7 := by
    rw [hV, hZ, hY]; clear hV hZ hY q r; omega
  rw [t]
  clear q r t
  refine ⟨by omega, by omega, by omega, ?_⟩
  rw [hV, hZ, hY]; clear hV hZ hY
  omega
/-- What stands behind step three, and the steps behind it, for a number of eight bytes. -/
theorem fold8 (n : Nat) (hn : n < 18446744073709551616) :
    T 8 n + T 8 n / 256 < 18446744073709551616 ∧
    (T 8 n + T 8 n / 256) + (T 8 n + T 8 n / 256) / 65536 < 18446744073709551616 ∧
    ((T 8 n + T 8 n / 256) + (T 8 n + T 8 n / 256) / 65536) + ((T 8 n + T 8 n / 256) + (T 8 n + T 8 n / 256) / 65536) / 4294967296 < 18446744073709551616 ∧
    (((T 8 n + T 8 n / 256) + (T 8 n + T 8 n / 256) / 65536) + ((T 8 n + T 8 n / 256) + (T 8 n + T 8 n / 256) / 65536) / 4294967296) % 128 = cnt 8 n := by
  obtain ⟨n7, l0, h0, rfl⟩ : ∃ h l, l < 256 ∧ n = 256 * h + l := ⟨n / 256, n % 256, by omega, by omega⟩
  obtain ⟨n6, l1, h1, rfl⟩ : ∃ h l, l < 256 ∧ n7 = 256 * h + l := ⟨n7 / 256, n7 % 256, by omega, by omega⟩
  obtain ⟨n5, l2, h2, rfl⟩ : ∃ h l, l < 256 ∧ n6 = 256 * h + l := ⟨n6 / 256, n6 % 256, by omega, by omega⟩
  obtain ⟨n4, l3, h3, rfl⟩ : ∃ h l, l < 256 ∧ n5 = 256 * h + l := ⟨n5 / 256, n5 % 256, by omega, by omega⟩
  obtain ⟨n3, l4, h4, rfl⟩ : ∃ h l, l < 256 ∧ n4 = 256 * h + l := ⟨n4 / 256, n4 % 256, by omega, by omega⟩
  obtain ⟨n2, l5, h5, rfl⟩ : ∃ h l, l < 256 ∧ n3 = 256 * h + l := ⟨n3 / 256, n3 % 256, by omega, by omega⟩
  obtain ⟨n1, l6, h6, rfl⟩ : ∃ h l, l < 256 ∧ n2 = 256 * h + l := ⟨n2 / 256, n2 % 256, by omega, by omega⟩
  obtain ⟨n0, l7, h7, rfl⟩ : ∃ h l, l < 256 ∧ n1 = 256 * h + l := ⟨n1 / 256, n1 % 256, by omega, by omega⟩
  rw [T_succ 7 _ _ h0, T_succ 6 _ _ h1, T_succ 5 _ _ h2, T_succ 4 _ _ h3, T_succ 3 _ _ h4, T_succ 2 _ _ h5, T_succ 1 _ _ h6, T_succ 0 _ _ h7,
    cnt_succ 7 _ _ h0, cnt_succ 6 _ _ h1, cnt_succ 5 _ _ h2, cnt_succ 4 _ _ h3, cnt_succ 3 _ _ h4, cnt_succ 2 _ _ h5, cnt_succ 1 _ _ h6, cnt_succ 0 _ _ h7]
  have t0 : T 0 n0 = 0 := (S_zero _).2.2
  have c0 : cnt 0 n0 = 0 := by simp [cnt]
  have b0 := (byte l0 h0).2.2.2.2
  have b1 := (byte l1 h1).2.2.2.2
  have b2 := (byte l2 h2).2.2.2.2
  have b3 := (byte l3 h3).2.2.2.2
  have b4 := (byte l4 h4).2.2.2.2
  have b5 := (byte l5 h5).2.2.2.2
  have b6 := (byte l6 h6).2.2.2.2
  have b7 := (byte l7 h7).2.2.2.2
  rw [t0, c0]
  generalize pop8 l0 = p0 at *
  generalize pop8 l1 = p1 at *
  generalize pop8 l2 = p2 at *
  generalize pop8 l3 = p3 at *
  generalize pop8 l4 = p4 at *
  generalize pop8 l5 = p5 at *
  generalize pop8 l6 = p6 at *
  generalize pop8 l7 = p7 at *
  clear hn
  generalize hY : 256 * (256 * (256 * (256 * (256 * (256 * (256 * (256 * 0 + p7) + p6) + p5) + p4) + p3) + p2) + p1) + p0 = Y
  have e := nest p0 p1 p2 p3 p4 p5 p6 p7
  rw [hY] at e
  have key := fold_sum p0 p1 p2 p3 p4 p5 p6 p7 b0 b1 b2 b3 b4 b5 b6 b7 Y e
  exact key
theorem S1_lt (n : Nat) : S1 8 n < 18446744073709551616 := by
  have a : n / 2 &&& mk 0x55 8 ≤ mk 0x55 8 := Nat.and_le_right
  have b : n &&& mk 0x55 8 ≤ mk 0x55 8 := Nat.and_le_right
  have e : mk 0x55 8 = 6148914691236517205 := by decide
  unfold S1; omega
theorem S2_lt (n : Nat) : S2 8 n ≤ 7378697629483820646 := by
  have a : n / 4 &&& mk 0x33 8 ≤ mk 0x33 8 := Nat.and_le_right
  have b : n &&& mk 0x33 8 ≤ mk 0x33 8 := Nat.and_le_right
  have e : mk 0x33 8 = 3689348814741910323 := by decide
  unfold S2; omega
theorem cnt_pc (x : BitVec 64) : cnt 8 x.toNat = pc x := by
  have h : ∀ i ∈ List.range 64, x.toNat.testBit i = has x (i : Int) := fun i hm => by
    have hi : i < 64 := List.mem_range.1 hm
    rw [has_nat x i hi]; rfl
  show ((List.range 64).filter fun i => x.toNat.testBit i).length = ((List.range 64).filter fun k : Nat => has x (k : Int)).length
  rw [List.filter_congr h]
end Pop

/-- The steps of OnesCount64, as the walk writes them. -/
def p1 (x : BitVec 64) : BitVec 64 := BitVec.ofNat 64 (Pop.S1 8 x.toNat)
def p2 (x : BitVec 64) : BitVec 64 := BitVec.ofNat 64 (Pop.S2 8 x.toNat)
def p3 (x : BitVec 64) : BitVec 64 := BitVec.ofNat 64 (Pop.S3 8 (x.toNat % 7378697629483820647))
theorem and_lit (n k : Nat) (hn : n < 18446744073709551616) (hk : k < 18446744073709551616) : bits .and .u64 (n : Int) (k : Int) = ((n &&& k : Nat) : Int) := bits_and_u64_nat n k hn hk
theorem u_p1 (x : BitVec 64) : IntKind.u64.wrap (bits .and .u64 (u x / 2) 6148914691236517205 + bits .and .u64 (u x) 6148914691236517205) = u (p1 x) := by
  have hx := x.isLt
  have e : Pop.mk 0x55 8 = 6148914691236517205 := by decide
  have e1 : u x / 2 = ((x.toNat / 2 : Nat) : Int) := by unfold u; omega
  have h := Pop.S1_lt x.toNat
  have e2 : (6148914691236517205 : Int) = ((6148914691236517205 : Nat) : Int) := rfl
  rw [e1, e2]
  unfold u
  rw [and_lit _ _ (by omega) (by omega), and_lit _ _ hx (by omega), IntKind.wrap_u64]
  unfold p1
  rw [BitVec.toNat_ofNat, Nat.mod_eq_of_lt h]
  unfold Pop.S1 at *
  rw [e] at *
  omega
theorem u_p2 (x : BitVec 64) : IntKind.u64.wrap (bits .and .u64 (u x / 4) 3689348814741910323 + bits .and .u64 (u x) 3689348814741910323) = u (p2 x) := by
  have hx := x.isLt
  have e : Pop.mk 0x33 8 = 3689348814741910323 := by decide
  have e1 : u x / 4 = ((x.toNat / 4 : Nat) : Int) := by unfold u; omega
  have h := Pop.S2_lt x.toNat
  have e2 : (3689348814741910323 : Int) = ((3689348814741910323 : Nat) : Int) := rfl
  rw [e1, e2]
  unfold u
  rw [and_lit _ _ (by omega) (by omega), and_lit _ _ hx (by omega), IntKind.wrap_u64]
  unfold p2
  rw [BitVec.toNat_ofNat, Nat.mod_eq_of_lt (by omega)]
  unfold Pop.S2 at *
  rw [e] at *
  omega
theorem p2_le (x : BitVec 64) : (p2 x).toNat ≤ 7378697629483820646 := by
  have h := Pop.S2_lt x.toNat
  unfold p2
  rw [BitVec.toNat_ofNat, Nat.mod_eq_of_lt (by omega)]
  exact h
theorem u_p3 (x : BitVec 64) : bits .and .u64 (IntKind.u64.wrap (u (p2 x) / 16 + u (p2 x))) 1085102592571150095 = u (p3 (p2 x)) := by
  have h := p2_le x
  generalize p2 x = y at *
  have e : Pop.mk 0x0f 8 = 1085102592571150095 := by decide
  have e1 : IntKind.u64.wrap (u y / 16 + u y) = ((y.toNat / 16 + y.toNat : Nat) : Int) := by
    rw [IntKind.wrap_u64]; unfold u; omega
  have e2 : (1085102592571150095 : Int) = ((1085102592571150095 : Nat) : Int) := rfl
  rw [e1, e2, and_lit _ _ (by omega) (by omega)]
  unfold p3 u
  have hle : (y.toNat / 16 + y.toNat) &&& 1085102592571150095 ≤ 1085102592571150095 := Nat.and_le_right
  rw [Nat.mod_eq_of_lt (show y.toNat < 7378697629483820647 by omega), BitVec.toNat_ofNat]
  unfold Pop.S3
  rw [e, Nat.mod_eq_of_lt (by omega)]
def p4 (x : BitVec 64) : BitVec 64 := x + (x >>> 8)
def p5 (x : BitVec 64) : BitVec 64 := x + (x >>> 16)
def p6 (x : BitVec 64) : BitVec 64 := x + (x >>> 32)
theorem u_shr8 (x : BitVec 64) : IntKind.u64.wrap (u x + u x / 256) = u (p4 x) := by
  unfold p4 u; rw [IntKind.wrap_u64, BitVec.toNat_add, BitVec.toNat_ushiftRight, Nat.shiftRight_eq_div_pow]; omega
theorem u_shr16 (x : BitVec 64) : IntKind.u64.wrap (u x + u x / 65536) = u (p5 x) := by
  unfold p5 u; rw [IntKind.wrap_u64, BitVec.toNat_add, BitVec.toNat_ushiftRight, Nat.shiftRight_eq_div_pow]; omega
theorem u_shr32 (x : BitVec 64) : IntKind.u64.wrap (u x + u x / 4294967296) = u (p6 x) := by
  unfold p6 u; rw [IntKind.wrap_u64, BitVec.toNat_add, BitVec.toNat_ushiftRight, Nat.shiftRight_eq_div_pow]; omega
theorem and127 (y : BitVec 64) : bits .and .i64 (wrap64 (u y)) 127 = ((y.toNat % 128 : Nat) : Int) := by
  have h1 : BitVec.ofInt 64 (wrap64 (u y)) = y := by
    apply BitVec.eq_of_toNat_eq
    rw [BitVec.toNat_ofInt]
    have := y.isLt
    unfold wrap64 u
    omega
  show IntKind.i64.wrap ((BitVec.ofInt 64 (wrap64 (u y)) &&& BitVec.ofInt 64 127).toNat : Int) = _
  rw [h1, BitVec.toNat_and]
  have h2 : (BitVec.ofInt 64 127).toNat = 2 ^ 7 - 1 := by decide
  rw [h2, Nat.and_two_pow_sub_one_eq_mod, IntKind.wrap_i64]
  omega
/-- ALL OF IT. -/
theorem pop_tells (x : BitVec 64) : (p6 (p5 (p4 (p3 (p2 (p1 x)))))).toNat % 128 = pc x := by
  have hx := x.isLt
  have h1 := Pop.S1_lt x.toNat
  have h2 := Pop.S2_lt (Pop.S1 8 x.toNat)
  have a1 : (p1 x).toNat = Pop.S1 8 x.toNat := by unfold p1; rw [BitVec.toNat_ofNat, Nat.mod_eq_of_lt h1]
  have a2 : (p2 (p1 x)).toNat = Pop.S2 8 (Pop.S1 8 x.toNat) := by unfold p2; rw [BitVec.toNat_ofNat, a1, Nat.mod_eq_of_lt (by omega)]
  have a3 : (p3 (p2 (p1 x))).toNat = Pop.T 8 x.toNat := by
    unfold p3
    rw [a2, BitVec.toNat_ofNat, Nat.mod_eq_of_lt (show Pop.S2 8 (Pop.S1 8 x.toNat) < 7378697629483820647 by omega)]
    have hle : Pop.S3 8 (Pop.S2 8 (Pop.S1 8 x.toNat)) ≤ Pop.mk 0x0f 8 := Nat.and_le_right
    have e : Pop.mk 0x0f 8 = 1085102592571150095 := by decide
    rw [Nat.mod_eq_of_lt (by omega)]
    rfl
  obtain ⟨f1, f2, f3, f4⟩ := Pop.fold8 x.toNat hx
  generalize p3 (p2 (p1 x)) = y at *
  rw [← a3] at f1 f2 f3 f4
  have a4 : (p4 y).toNat = y.toNat + y.toNat / 256 := by
    unfold p4; rw [BitVec.toNat_add, BitVec.toNat_ushiftRight, Nat.shiftRight_eq_div_pow]; omega
  rw [← a4] at f2 f3 f4
  have a5 : (p5 (p4 y)).toNat = (p4 y).toNat + (p4 y).toNat / 65536 := by
    unfold p5; rw [BitVec.toNat_add, BitVec.toNat_ushiftRight, Nat.shiftRight_eq_div_pow]; omega
  rw [← a5] at f3 f4
  have a6 : (p6 (p5 (p4 y))).toNat = (p5 (p4 y)).toNat + (p5 (p4 y)).toNat / 4294967296 := by
    unfold p6; rw [BitVec.toNat_add, BitVec.toNat_ushiftRight, Nat.shiftRight_eq_div_pow]; omega
  rw [a6, f4, Pop.cnt_pc]
end Go.Proofs.YtkmklmdhmfikmaaDoor
