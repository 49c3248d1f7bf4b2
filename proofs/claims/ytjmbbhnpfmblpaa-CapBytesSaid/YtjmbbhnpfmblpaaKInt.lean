import Derived.Test.YtjmbbhnpfmblpaaKBase
import Derived.IntWalk
/- Integer operations: one run lemma each. A library. -/
namespace Go.Proofs.Ytjmbbhnpfmblpaa
open Go
abbrev VI (a : Int) : Value := .int .i64 a
abbrev V8 (x : UInt8) : Value := .int .u8 (x.toNat : Int)
abbrev V32 (x : UInt32) : Value := .int .u32 (x.toNat : Int)
abbrev V64 (x : UInt64) : Value := .int .u64 (x.toNat : Int)
theorem wrap_i64 {n : Int} (h1 : -9223372036854775808 ≤ n) (h2 : n ≤ 9223372036854775807) : IntKind.i64.wrap n = n := by
  exact IntWalk.i64_in n ⟨h1, h2⟩
theorem wrap_uns {k : IntKind} (hk : k.signed = false) (n : Int) : k.wrap n = n % (2 ^ k.bits : Int) := by
  simp [IntKind.wrap, hk]
theorem run_equal_bool {P : Program} {t : TypeId} (hu : P.underlying t = some .bool) (a b : Bool) (w : World) : (Op.equal t (.bool a) (.bool b)).run P w = .ok (a == b) w := by
  unfold Op.equal Op.maxDepth Op.equalIn
  rw [Sem.run_bind, run_underlying hu]
  simp
section
variable {P : Program} {Q : Exit → Act → World → Prop} {n : Nat} {σ : Nat → Value} {w : World} {K : Act → World → Prop}
  {ty : TypeId} {pos : String} {aft : Array Edge} {g : Option (Nat × Bool)} {d : Nat} {t yt : TypeId} {x y : Operand} {op : BinOp}
theorem o_bin {k : IntKind} {a b : Int} {v : Value} (hx : ev n σ x = .int k a) (hy : ev n σ y = .int k b)
    (hr : ∀ w : World, (binOp op t (.int k a) (.int k b)).run P w = .ok v w) (h : K (mk n (up σ d v)) w) :
    Oper.wp P ⟨some d, .binOp op t x y yt, ty, pos, aft, g⟩ (mk n σ) w K Q :=
  o_val (by
    have he : (eqGuard op t x y (.int k a) (.int k b)).run P w = .ok () w := by
      unfold eqGuard
      cases op <;> simp
    simp [execOp, hx, hy, he, hr]) h
theorem o_shift {k yk : IntKind} {a b : Int} {v : Value} (hx : ev n σ x = .int k a) (hy : ev n σ y = .int yk b) (ho : op = .shl ∨ op = .shr)
    (hr : ∀ w : World, (Op.shift op k a yk b).run P w = .ok v w) (h : K (mk n (up σ d v)) w) :
    Oper.wp P ⟨some d, .binOp op t x y yt, ty, pos, aft, g⟩ (mk n σ) w K Q :=
  o_val (by
    rcases ho with rfl | rfl <;> simp [execOp, hx, hy, eqGuard, binOp, hr]) h
theorem o_un {k : IntKind} {a : Int} {v : Value} {uo : UnOp} (hx : ev n σ x = .int k a)
    (hr : ∀ w : World, (Op.unary uo (.int k a)).run P w = .ok v w) (h : K (mk n (up σ d v)) w) :
    Oper.wp P ⟨some d, .unOp uo t x, ty, pos, aft, g⟩ (mk n σ) w K Q :=
  o_val (by simp [execOp, hx, hr]) h
theorem o_conv {k : IntKind} {a : Int} {ds : TypeDesc} {k' : IntKind} {v : Int} (hs : P.underlying t = some ds) (hd : P.underlying yt = some (.int k')) (hx : ev n σ x = .int k a)
    (hr : k'.wrap a = v) (h : K (mk n (up σ d (.int k' v))) w) :
    Oper.wp P ⟨some d, .convert t yt x, ty, pos, aft, g⟩ (mk n σ) w K Q :=
  o_val (by
    have h1 : (underlying t).run P w = .ok ds w := run_underlying hs w
    have h2 : (underlying yt).run P w = .ok (.int k') w := run_underlying hd w
    cases ds <;> simp [execOp, hx, convert, h1, h2, Conv.intToInt, hr]) h
/-- bools compared. -/
theorem o_beq {a b : Bool} (hu : P.underlying t = some .bool) (hx : ev n σ x = .bool a) (hy : ev n σ y = .bool b)
    (h : K (mk n (up σ d (.bool (a == b)))) w) :
    Oper.wp P ⟨some d, .binOp .eql t x y yt, ty, pos, aft, g⟩ (mk n σ) w K Q :=
  o_val (by
    have e1 : (Op.equal t (.bool a) (.bool b)).run P w = .ok (a == b) w := run_equal_bool hu a b w
    have e2 : binOp .eql t (.bool a) (.bool b) = (do pure (.bool (← Op.equal t (.bool a) (.bool b)))) := rfl
    simp [execOp, hx, hy, eqGuard, e2, e1]) h
theorem o_bne {a b : Bool} (hu : P.underlying t = some .bool) (hx : ev n σ x = .bool a) (hy : ev n σ y = .bool b)
    (h : K (mk n (up σ d (.bool (!(a == b))))) w) :
    Oper.wp P ⟨some d, .binOp .neq t x y yt, ty, pos, aft, g⟩ (mk n σ) w K Q :=
  o_val (by
    have e1 : (Op.equal t (.bool a) (.bool b)).run P w = .ok (a == b) w := run_equal_bool hu a b w
    have e2 : binOp .neq t (.bool a) (.bool b) = (do pure (.bool (!(← Op.equal t (.bool a) (.bool b))))) := rfl
    simp [execOp, hx, hy, eqGuard, e2, e1]) h
/-- strings compared. -/
theorem o_str {a b : ByteArray} {v : Value} (hx : ev n σ x = .string a) (hy : ev n σ y = .string b)
    (hr : ∀ w : World, (Op.stringOp op a b).run P w = .ok v w) (ho : op ≠ .shl ∧ op ≠ .shr) (h : K (mk n (up σ d v)) w) :
    Oper.wp P ⟨some d, .binOp op t x y yt, ty, pos, aft, g⟩ (mk n σ) w K Q :=
  o_val (by
    have he : (eqGuard op t x y (.string a) (.string b)).run P w = .ok () w := by
      unfold eqGuard
      cases op <;> simp
    cases op <;> simp_all [execOp, binOp]) h
end
section
variable {P : Program} {w : World} {t : TypeId}
theorem b_seql (a b : ByteArray) : (Op.stringOp .eql a b).run P w = .ok (.bool (a.toList == b.toList)) w := by simp [Op.stringOp]
theorem b_sneq (a b : ByteArray) : (Op.stringOp .neq a b).run P w = .ok (.bool (!(a.toList == b.toList))) w := by simp [Op.stringOp]
theorem b_add {a b : Int} (h1 : -9223372036854775808 ≤ a + b) (h2 : a + b ≤ 9223372036854775807) : (binOp .add t (VI a) (VI b)).run P w = .ok (VI (a + b)) w := by
  simp [binOp, Op.intArith, wrap_i64 h1 h2]
theorem b_sub {a b : Int} (h1 : -9223372036854775808 ≤ a - b) (h2 : a - b ≤ 9223372036854775807) : (binOp .sub t (VI a) (VI b)).run P w = .ok (VI (a - b)) w := by
  simp [binOp, Op.intArith, wrap_i64 h1 h2]
theorem b_mul {a b : Int} (h1 : -9223372036854775808 ≤ a * b) (h2 : a * b ≤ 9223372036854775807) : (binOp .mul t (VI a) (VI b)).run P w = .ok (VI (a * b)) w := by
  simp [binOp, Op.intArith, wrap_i64 h1 h2]
theorem b_rem {k : IntKind} {a b : Int} (h1 : 0 ≤ a) (h2 : 0 < b) : (binOp .rem t (.int k a) (.int k b)).run P w = .ok (.int k (a % b)) w := by
  simp [binOp, Op.intDiv, Int.ne_of_gt h2, Int.tmod_eq_emod_of_nonneg h1]
theorem b_quo {a b : Int} (h1 : 0 ≤ a) (h2 : 0 < b) (h3 : a ≤ 9223372036854775807) : (binOp .quo t (VI a) (VI b)).run P w = .ok (VI (a / b)) w := by
  have e1 : 0 ≤ a / b := Int.ediv_nonneg h1 (Int.le_of_lt h2)
  have e2 : a / b ≤ a := Int.ediv_le_self _ h1
  simp [binOp, Op.intDiv, Int.ne_of_gt h2, Int.tdiv_eq_ediv_of_nonneg h1, wrap_i64 (n := a / b) (by omega) (by omega)]
theorem b_lss {k : IntKind} {a b : Int} : (binOp .lss t (.int k a) (.int k b)).run P w = .ok (.bool (decide (a < b))) w := by simp [binOp, Op.intCmp]
theorem b_leq {k : IntKind} {a b : Int} : (binOp .leq t (.int k a) (.int k b)).run P w = .ok (.bool (decide (a ≤ b))) w := by simp [binOp, Op.intCmp]
theorem b_gtr {k : IntKind} {a b : Int} : (binOp .gtr t (.int k a) (.int k b)).run P w = .ok (.bool (decide (b < a))) w := by simp [binOp, Op.intCmp]
theorem b_geq {k : IntKind} {a b : Int} : (binOp .geq t (.int k a) (.int k b)).run P w = .ok (.bool (decide (b ≤ a))) w := by simp [binOp, Op.intCmp]
theorem b_eql {k : IntKind} {a b : Int} : (binOp .eql t (.int k a) (.int k b)).run P w = .ok (.bool (decide (a = b))) w := by
  simp [binOp, Op.intCmp]; rfl
theorem b_neq {k : IntKind} {a b : Int} : (binOp .neq t (.int k a) (.int k b)).run P w = .ok (.bool (decide (a ≠ b))) w := by
  simp [binOp, Op.intCmp, bne]; rfl

theorem wrap_u8 (n : Int) : IntKind.u8.wrap n = n % 256 := by rw [wrap_uns rfl]; rfl
theorem u8_lt (x : UInt8) : x.toNat < 256 := x.toNat_lt
theorem b_add_u8 {x y : UInt8} : (binOp .add t (V8 x) (V8 y)).run P w = .ok (V8 (x + y)) w := by
  have : ((x + y).toNat : Int) = (x.toNat + y.toNat : Int) % 256 := by rw [UInt8.toNat_add]; simp
  simp [binOp, Op.intArith, wrap_u8, this]
theorem b_sub_u8 {x y : UInt8} : (binOp .sub t (V8 x) (V8 y)).run P w = .ok (V8 (x - y)) w := by
  have hx := u8_lt x
  have hy := u8_lt y
  have : ((x - y).toNat : Int) = (x.toNat - y.toNat : Int) % 256 := by rw [UInt8.toNat_sub]; omega
  simp [binOp, Op.intArith, wrap_u8, this]
theorem b_mul_u8 {x y : UInt8} : (binOp .mul t (V8 x) (V8 y)).run P w = .ok (V8 (x * y)) w := by
  have : ((x * y).toNat : Int) = (x.toNat * y.toNat : Int) % 256 := by rw [UInt8.toNat_mul]; simp
  simp [binOp, Op.intArith, wrap_u8, this]
theorem bv_u8 (x : UInt8) : BitVec.ofInt 8 (x.toNat : Int) = x.toBitVec := by
  apply BitVec.eq_of_toNat_eq; simp [BitVec.toNat_ofInt]
theorem bk_u8 (x : UInt8) : IntKind.u8.wrap ((x.toBitVec.toNat : Nat) : Int) = (x.toNat : Int) := by
  have := u8_lt x
  rw [wrap_u8]; simp; omega
theorem b_and_u8 {x y : UInt8} : (binOp .and t (V8 x) (V8 y)).run P w = .ok (V8 (x &&& y)) w := by
  have h := bk_u8 (x &&& y)
  have e : binOp .and t (V8 x) (V8 y) = Sem.pure (.int .u8 (IntKind.u8.wrap ((BitVec.ofInt 8 (x.toNat:Int) &&& BitVec.ofInt 8 (y.toNat:Int)).toNat : Nat))) := rfl
  simp only [UInt8.toBitVec_and] at h
  rw [e, bv_u8, bv_u8, h]; rfl
theorem b_or_u8 {x y : UInt8} : (binOp .or t (V8 x) (V8 y)).run P w = .ok (V8 (x ||| y)) w := by
  have h := bk_u8 (x ||| y)
  have e : binOp .or t (V8 x) (V8 y) = Sem.pure (.int .u8 (IntKind.u8.wrap ((BitVec.ofInt 8 (x.toNat:Int) ||| BitVec.ofInt 8 (y.toNat:Int)).toNat : Nat))) := rfl
  simp only [UInt8.toBitVec_or] at h
  rw [e, bv_u8, bv_u8, h]; rfl
theorem b_xor_u8 {x y : UInt8} : (binOp .xor t (V8 x) (V8 y)).run P w = .ok (V8 (x ^^^ y)) w := by
  have h := bk_u8 (x ^^^ y)
  have e : binOp .xor t (V8 x) (V8 y) = Sem.pure (.int .u8 (IntKind.u8.wrap ((BitVec.ofInt 8 (x.toNat:Int) ^^^ BitVec.ofInt 8 (y.toNat:Int)).toNat : Nat))) := rfl
  simp only [UInt8.toBitVec_xor] at h
  rw [e, bv_u8, bv_u8, h]; rfl
theorem b_andNot_u8 {x y : UInt8} : (binOp .andNot t (V8 x) (V8 y)).run P w = .ok (V8 (x &&& ~~~ y)) w := by
  have h := bk_u8 (x &&& ~~~ y)
  have e : binOp .andNot t (V8 x) (V8 y) = Sem.pure (.int .u8 (IntKind.u8.wrap ((BitVec.ofInt 8 (x.toNat:Int) &&& ~~~ BitVec.ofInt 8 (y.toNat:Int)).toNat : Nat))) := rfl
  simp only [UInt8.toBitVec_and, UInt8.toBitVec_not] at h
  rw [e, bv_u8, bv_u8, h]; rfl
theorem b_not_u8 {x : UInt8} : (Op.unary .xor (V8 x)).run P w = .ok (V8 (~~~x)) w := by
  have h := bk_u8 (~~~x)
  have e1 : BitVec.ofInt 8 IntKind.u8.max ^^^ x.toBitVec = ~~~x.toBitVec := by
    have : BitVec.ofInt 8 IntKind.u8.max = BitVec.allOnes 8 := by decide
    rw [this, BitVec.allOnes_xor]
  have e : Op.unary .xor (V8 x) = Sem.pure (.int .u8 (IntKind.u8.wrap ((BitVec.ofInt 8 IntKind.u8.max ^^^ BitVec.ofInt 8 (x.toNat:Int)).toNat : Nat))) := rfl
  simp only [UInt8.toBitVec_not] at h
  rw [e, bv_u8, e1, h]; rfl
theorem b_shl_u8 {x : UInt8} {yk : IntKind} {c : Int} (h0 : 0 ≤ c) (h1 : c < 8) : (Op.shift .shl .u8 (x.toNat : Int) yk c).run P w = .ok (V8 (x <<< UInt8.ofNat c.toNat)) w := by
  obtain ⟨m, rfl⟩ := Int.eq_ofNat_of_zero_le h0
  have hm : m < 8 := by omega
  have e : ((x <<< UInt8.ofNat m).toNat : Int) = ((x.toNat : Int) * 2 ^ m) % 256 := by
    rw [UInt8.toNat_shiftLeft]
    have : (UInt8.ofNat m).toNat % 8 = m := by rw [UInt8.toNat_ofNat']; omega
    rw [this, Nat.shiftLeft_eq]; simp
  have e2 : Op.shift .shl .u8 (x.toNat : Int) yk (m : Int) = Sem.pure (.int .u8 (IntKind.u8.wrap ((x.toNat : Int) * 2 ^ (min (m : Int).toNat 8)))) := by
    unfold Op.shift
    rw [if_neg (by omega)]; rfl
  rw [e2, Int.toNat_natCast, Nat.min_eq_left (Nat.le_of_lt hm), wrap_u8, ← e]; rfl
theorem b_shr_u8 {x : UInt8} {yk : IntKind} {c : Int} (h0 : 0 ≤ c) (h1 : c < 8) : (Op.shift .shr .u8 (x.toNat : Int) yk c).run P w = .ok (V8 (x >>> UInt8.ofNat c.toNat)) w := by
  obtain ⟨m, rfl⟩ := Int.eq_ofNat_of_zero_le h0
  have hm : m < 8 := by omega
  have e : ((x >>> UInt8.ofNat m).toNat : Int) = (x.toNat : Int) / 2 ^ m := by
    rw [UInt8.toNat_shiftRight]
    have : (UInt8.ofNat m).toNat % 8 = m := by rw [UInt8.toNat_ofNat']; omega
    rw [this, Nat.shiftRight_eq_div_pow]; simp
  have e3 : (x.toNat : Int).fdiv (2 ^ m) = (x.toNat : Int) / 2 ^ m := by
    rw [Int.fdiv_eq_ediv_of_nonneg]; exact Int.le_of_lt (Int.pow_pos (by omega))
  have e2 : Op.shift .shr .u8 (x.toNat : Int) yk (m : Int) = Sem.pure (.int .u8 ((x.toNat : Int).fdiv (2 ^ (min (m : Int).toNat 8)))) := by
    unfold Op.shift
    rw [if_neg (by omega)]; rfl
  rw [e2, Int.toNat_natCast, Nat.min_eq_left (Nat.le_of_lt hm), e3, ← e]; rfl
theorem wrap_u32 (n : Int) : IntKind.u32.wrap n = n % 4294967296 := by rw [wrap_uns rfl]; rfl
theorem u32_lt (x : UInt32) : x.toNat < 4294967296 := x.toNat_lt
theorem b_add_u32 {x y : UInt32} : (binOp .add t (V32 x) (V32 y)).run P w = .ok (V32 (x + y)) w := by
  have : ((x + y).toNat : Int) = (x.toNat + y.toNat : Int) % 4294967296 := by rw [UInt32.toNat_add]; simp
  simp [binOp, Op.intArith, wrap_u32, this]
theorem b_sub_u32 {x y : UInt32} : (binOp .sub t (V32 x) (V32 y)).run P w = .ok (V32 (x - y)) w := by
  have hx := u32_lt x
  have hy := u32_lt y
  have : ((x - y).toNat : Int) = (x.toNat - y.toNat : Int) % 4294967296 := by rw [UInt32.toNat_sub]; omega
  simp [binOp, Op.intArith, wrap_u32, this]
theorem b_mul_u32 {x y : UInt32} : (binOp .mul t (V32 x) (V32 y)).run P w = .ok (V32 (x * y)) w := by
  have : ((x * y).toNat : Int) = (x.toNat * y.toNat : Int) % 4294967296 := by rw [UInt32.toNat_mul]; simp
  simp [binOp, Op.intArith, wrap_u32, this]
theorem bv_u32 (x : UInt32) : BitVec.ofInt 32 (x.toNat : Int) = x.toBitVec := by
  apply BitVec.eq_of_toNat_eq; simp [BitVec.toNat_ofInt]
theorem bk_u32 (x : UInt32) : IntKind.u32.wrap ((x.toBitVec.toNat : Nat) : Int) = (x.toNat : Int) := by
  have := u32_lt x
  rw [wrap_u32]; simp; omega
theorem b_and_u32 {x y : UInt32} : (binOp .and t (V32 x) (V32 y)).run P w = .ok (V32 (x &&& y)) w := by
  have h := bk_u32 (x &&& y)
  have e : binOp .and t (V32 x) (V32 y) = Sem.pure (.int .u32 (IntKind.u32.wrap ((BitVec.ofInt 32 (x.toNat:Int) &&& BitVec.ofInt 32 (y.toNat:Int)).toNat : Nat))) := rfl
  simp only [UInt32.toBitVec_and] at h
  rw [e, bv_u32, bv_u32, h]; rfl
theorem b_or_u32 {x y : UInt32} : (binOp .or t (V32 x) (V32 y)).run P w = .ok (V32 (x ||| y)) w := by
  have h := bk_u32 (x ||| y)
  have e : binOp .or t (V32 x) (V32 y) = Sem.pure (.int .u32 (IntKind.u32.wrap ((BitVec.ofInt 32 (x.toNat:Int) ||| BitVec.ofInt 32 (y.toNat:Int)).toNat : Nat))) := rfl
  simp only [UInt32.toBitVec_or] at h
  rw [e, bv_u32, bv_u32, h]; rfl
theorem b_xor_u32 {x y : UInt32} : (binOp .xor t (V32 x) (V32 y)).run P w = .ok (V32 (x ^^^ y)) w := by
  have h := bk_u32 (x ^^^ y)
  have e : binOp .xor t (V32 x) (V32 y) = Sem.pure (.int .u32 (IntKind.u32.wrap ((BitVec.ofInt 32 (x.toNat:Int) ^^^ BitVec.ofInt 32 (y.toNat:Int)).toNat : Nat))) := rfl
  simp only [UInt32.toBitVec_xor] at h
  rw [e, bv_u32, bv_u32, h]; rfl
theorem b_andNot_u32 {x y : UInt32} : (binOp .andNot t (V32 x) (V32 y)).run P w = .ok (V32 (x &&& ~~~ y)) w := by
  have h := bk_u32 (x &&& ~~~ y)
  have e : binOp .andNot t (V32 x) (V32 y) = Sem.pure (.int .u32 (IntKind.u32.wrap ((BitVec.ofInt 32 (x.toNat:Int) &&& ~~~ BitVec.ofInt 32 (y.toNat:Int)).toNat : Nat))) := rfl
  simp only [UInt32.toBitVec_and, UInt32.toBitVec_not] at h
  rw [e, bv_u32, bv_u32, h]; rfl
theorem b_not_u32 {x : UInt32} : (Op.unary .xor (V32 x)).run P w = .ok (V32 (~~~x)) w := by
  have h := bk_u32 (~~~x)
  have e1 : BitVec.ofInt 32 IntKind.u32.max ^^^ x.toBitVec = ~~~x.toBitVec := by
    have : BitVec.ofInt 32 IntKind.u32.max = BitVec.allOnes 32 := by decide
    rw [this, BitVec.allOnes_xor]
  have e : Op.unary .xor (V32 x) = Sem.pure (.int .u32 (IntKind.u32.wrap ((BitVec.ofInt 32 IntKind.u32.max ^^^ BitVec.ofInt 32 (x.toNat:Int)).toNat : Nat))) := rfl
  simp only [UInt32.toBitVec_not] at h
  rw [e, bv_u32, e1, h]; rfl
theorem b_shl_u32 {x : UInt32} {yk : IntKind} {c : Int} (h0 : 0 ≤ c) (h1 : c < 32) : (Op.shift .shl .u32 (x.toNat : Int) yk c).run P w = .ok (V32 (x <<< UInt32.ofNat c.toNat)) w := by
  obtain ⟨m, rfl⟩ := Int.eq_ofNat_of_zero_le h0
  have hm : m < 32 := by omega
  have e : ((x <<< UInt32.ofNat m).toNat : Int) = ((x.toNat : Int) * 2 ^ m) % 4294967296 := by
    rw [UInt32.toNat_shiftLeft]
    have : (UInt32.ofNat m).toNat % 32 = m := by rw [UInt32.toNat_ofNat']; omega
    rw [this, Nat.shiftLeft_eq]; simp
  have e2 : Op.shift .shl .u32 (x.toNat : Int) yk (m : Int) = Sem.pure (.int .u32 (IntKind.u32.wrap ((x.toNat : Int) * 2 ^ (min (m : Int).toNat 32)))) := by
    unfold Op.shift
    rw [if_neg (by omega)]; rfl
  rw [e2, Int.toNat_natCast, Nat.min_eq_left (Nat.le_of_lt hm), wrap_u32, ← e]; rfl
theorem b_shr_u32 {x : UInt32} {yk : IntKind} {c : Int} (h0 : 0 ≤ c) (h1 : c < 32) : (Op.shift .shr .u32 (x.toNat : Int) yk c).run P w = .ok (V32 (x >>> UInt32.ofNat c.toNat)) w := by
  obtain ⟨m, rfl⟩ := Int.eq_ofNat_of_zero_le h0
  have hm : m < 32 := by omega
  have e : ((x >>> UInt32.ofNat m).toNat : Int) = (x.toNat : Int) / 2 ^ m := by
    rw [UInt32.toNat_shiftRight]
    have : (UInt32.ofNat m).toNat % 32 = m := by rw [UInt32.toNat_ofNat']; omega
    rw [this, Nat.shiftRight_eq_div_pow]; simp
  have e3 : (x.toNat : Int).fdiv (2 ^ m) = (x.toNat : Int) / 2 ^ m := by
    rw [Int.fdiv_eq_ediv_of_nonneg]; exact Int.le_of_lt (Int.pow_pos (by omega))
  have e2 : Op.shift .shr .u32 (x.toNat : Int) yk (m : Int) = Sem.pure (.int .u32 ((x.toNat : Int).fdiv (2 ^ (min (m : Int).toNat 32)))) := by
    unfold Op.shift
    rw [if_neg (by omega)]; rfl
  rw [e2, Int.toNat_natCast, Nat.min_eq_left (Nat.le_of_lt hm), e3, ← e]; rfl
theorem wrap_u64 (n : Int) : IntKind.u64.wrap n = n % 18446744073709551616 := by rw [wrap_uns rfl]; rfl
theorem u64_lt (x : UInt64) : x.toNat < 18446744073709551616 := x.toNat_lt
theorem b_add_u64 {x y : UInt64} : (binOp .add t (V64 x) (V64 y)).run P w = .ok (V64 (x + y)) w := by
  have : ((x + y).toNat : Int) = (x.toNat + y.toNat : Int) % 18446744073709551616 := by rw [UInt64.toNat_add]; simp
  simp [binOp, Op.intArith, wrap_u64, this]
theorem b_sub_u64 {x y : UInt64} : (binOp .sub t (V64 x) (V64 y)).run P w = .ok (V64 (x - y)) w := by
  have hx := u64_lt x
  have hy := u64_lt y
  have : ((x - y).toNat : Int) = (x.toNat - y.toNat : Int) % 18446744073709551616 := by rw [UInt64.toNat_sub]; omega
  simp [binOp, Op.intArith, wrap_u64, this]
theorem b_mul_u64 {x y : UInt64} : (binOp .mul t (V64 x) (V64 y)).run P w = .ok (V64 (x * y)) w := by
  have : ((x * y).toNat : Int) = (x.toNat * y.toNat : Int) % 18446744073709551616 := by rw [UInt64.toNat_mul]; simp
  simp [binOp, Op.intArith, wrap_u64, this]
theorem bv_u64 (x : UInt64) : BitVec.ofInt 64 (x.toNat : Int) = x.toBitVec := by
  apply BitVec.eq_of_toNat_eq; simp [BitVec.toNat_ofInt]
theorem bk_u64 (x : UInt64) : IntKind.u64.wrap ((x.toBitVec.toNat : Nat) : Int) = (x.toNat : Int) := by
  have := u64_lt x
  rw [wrap_u64]; simp; omega
theorem b_and_u64 {x y : UInt64} : (binOp .and t (V64 x) (V64 y)).run P w = .ok (V64 (x &&& y)) w := by
  have h := bk_u64 (x &&& y)
  have e : binOp .and t (V64 x) (V64 y) = Sem.pure (.int .u64 (IntKind.u64.wrap ((BitVec.ofInt 64 (x.toNat:Int) &&& BitVec.ofInt 64 (y.toNat:Int)).toNat : Nat))) := rfl
  simp only [UInt64.toBitVec_and] at h
  rw [e, bv_u64, bv_u64, h]; rfl
theorem b_or_u64 {x y : UInt64} : (binOp .or t (V64 x) (V64 y)).run P w = .ok (V64 (x ||| y)) w := by
  have h := bk_u64 (x ||| y)
  have e : binOp .or t (V64 x) (V64 y) = Sem.pure (.int .u64 (IntKind.u64.wrap ((BitVec.ofInt 64 (x.toNat:Int) ||| BitVec.ofInt 64 (y.toNat:Int)).toNat : Nat))) := rfl
  simp only [UInt64.toBitVec_or] at h
  rw [e, bv_u64, bv_u64, h]; rfl
theorem b_xor_u64 {x y : UInt64} : (binOp .xor t (V64 x) (V64 y)).run P w = .ok (V64 (x ^^^ y)) w := by
  have h := bk_u64 (x ^^^ y)
  have e : binOp .xor t (V64 x) (V64 y) = Sem.pure (.int .u64 (IntKind.u64.wrap ((BitVec.ofInt 64 (x.toNat:Int) ^^^ BitVec.ofInt 64 (y.toNat:Int)).toNat : Nat))) := rfl
  simp only [UInt64.toBitVec_xor] at h
  rw [e, bv_u64, bv_u64, h]; rfl
theorem b_andNot_u64 {x y : UInt64} : (binOp .andNot t (V64 x) (V64 y)).run P w = .ok (V64 (x &&& ~~~ y)) w := by
  have h := bk_u64 (x &&& ~~~ y)
  have e : binOp .andNot t (V64 x) (V64 y) = Sem.pure (.int .u64 (IntKind.u64.wrap ((BitVec.ofInt 64 (x.toNat:Int) &&& ~~~ BitVec.ofInt 64 (y.toNat:Int)).toNat : Nat))) := rfl
  simp only [UInt64.toBitVec_and, UInt64.toBitVec_not] at h
  rw [e, bv_u64, bv_u64, h]; rfl
theorem b_not_u64 {x : UInt64} : (Op.unary .xor (V64 x)).run P w = .ok (V64 (~~~x)) w := by
  have h := bk_u64 (~~~x)
  have e1 : BitVec.ofInt 64 IntKind.u64.max ^^^ x.toBitVec = ~~~x.toBitVec := by
    have : BitVec.ofInt 64 IntKind.u64.max = BitVec.allOnes 64 := by decide
    rw [this, BitVec.allOnes_xor]
  have e : Op.unary .xor (V64 x) = Sem.pure (.int .u64 (IntKind.u64.wrap ((BitVec.ofInt 64 IntKind.u64.max ^^^ BitVec.ofInt 64 (x.toNat:Int)).toNat : Nat))) := rfl
  simp only [UInt64.toBitVec_not] at h
  rw [e, bv_u64, e1, h]; rfl
theorem b_shl_u64 {x : UInt64} {yk : IntKind} {c : Int} (h0 : 0 ≤ c) (h1 : c < 64) : (Op.shift .shl .u64 (x.toNat : Int) yk c).run P w = .ok (V64 (x <<< UInt64.ofNat c.toNat)) w := by
  obtain ⟨m, rfl⟩ := Int.eq_ofNat_of_zero_le h0
  have hm : m < 64 := by omega
  have e : ((x <<< UInt64.ofNat m).toNat : Int) = ((x.toNat : Int) * 2 ^ m) % 18446744073709551616 := by
    rw [UInt64.toNat_shiftLeft]
    have : (UInt64.ofNat m).toNat % 64 = m := by rw [UInt64.toNat_ofNat']; omega
    rw [this, Nat.shiftLeft_eq]; simp
  have e2 : Op.shift .shl .u64 (x.toNat : Int) yk (m : Int) = Sem.pure (.int .u64 (IntKind.u64.wrap ((x.toNat : Int) * 2 ^ (min (m : Int).toNat 64)))) := by
    unfold Op.shift
    rw [if_neg (by omega)]; rfl
  rw [e2, Int.toNat_natCast, Nat.min_eq_left (Nat.le_of_lt hm), wrap_u64, ← e]; rfl
theorem b_shr_u64 {x : UInt64} {yk : IntKind} {c : Int} (h0 : 0 ≤ c) (h1 : c < 64) : (Op.shift .shr .u64 (x.toNat : Int) yk c).run P w = .ok (V64 (x >>> UInt64.ofNat c.toNat)) w := by
  obtain ⟨m, rfl⟩ := Int.eq_ofNat_of_zero_le h0
  have hm : m < 64 := by omega
  have e : ((x >>> UInt64.ofNat m).toNat : Int) = (x.toNat : Int) / 2 ^ m := by
    rw [UInt64.toNat_shiftRight]
    have : (UInt64.ofNat m).toNat % 64 = m := by rw [UInt64.toNat_ofNat']; omega
    rw [this, Nat.shiftRight_eq_div_pow]; simp
  have e3 : (x.toNat : Int).fdiv (2 ^ m) = (x.toNat : Int) / 2 ^ m := by
    rw [Int.fdiv_eq_ediv_of_nonneg]; exact Int.le_of_lt (Int.pow_pos (by omega))
  have e2 : Op.shift .shr .u64 (x.toNat : Int) yk (m : Int) = Sem.pure (.int .u64 ((x.toNat : Int).fdiv (2 ^ (min (m : Int).toNat 64)))) := by
    unfold Op.shift
    rw [if_neg (by omega)]; rfl
  rw [e2, Int.toNat_natCast, Nat.min_eq_left (Nat.le_of_lt hm), e3, ← e]; rfl
/-! conversions -/
theorem w_i64_8 (x : UInt8) : IntKind.i64.wrap (x.toNat : Int) = (x.toNat : Int) := wrap_i64 (by omega) (by have := u8_lt x; omega)
theorem w_i64_32 (x : UInt32) : IntKind.i64.wrap (x.toNat : Int) = (x.toNat : Int) := wrap_i64 (by omega) (by have := u32_lt x; omega)
theorem w_i64_64 {x : UInt64} (h : (x.toNat : Int) ≤ 9223372036854775807) : IntKind.i64.wrap (x.toNat : Int) = (x.toNat : Int) := wrap_i64 (by omega) h
theorem w_u32_8 (x : UInt8) : IntKind.u32.wrap (x.toNat : Int) = (x.toUInt32.toNat : Int) := by
  have := u8_lt x
  rw [wrap_u32, UInt8.toNat_toUInt32]; omega
theorem w_u64_8 (x : UInt8) : IntKind.u64.wrap (x.toNat : Int) = (x.toUInt64.toNat : Int) := by
  have := u8_lt x
  rw [wrap_u64, UInt8.toNat_toUInt64]; omega
theorem w_u64_64 (x : UInt64) : IntKind.u64.wrap (x.toNat : Int) = (x.toNat : Int) := by
  have := u64_lt x
  rw [wrap_u64]; omega
theorem w_u8_8 (x : UInt8) : IntKind.u8.wrap (x.toNat : Int) = (x.toNat : Int) := by
  have := u8_lt x
  rw [wrap_u8]; omega
theorem w_u8_64 (x : UInt64) : IntKind.u8.wrap (x.toNat : Int) = (x.toUInt8.toNat : Int) := by
  rw [wrap_u8, UInt64.toNat_toUInt8]; simp
theorem w_u8_32 (x : UInt32) : IntKind.u8.wrap (x.toNat : Int) = (x.toUInt8.toNat : Int) := by
  rw [wrap_u8, UInt32.toNat_toUInt8]; simp
theorem w_u64_i {a : Int} (h0 : 0 ≤ a) : IntKind.u64.wrap a = ((UInt64.ofNat a.toNat).toNat : Int) := by
  obtain ⟨m, rfl⟩ := Int.eq_ofNat_of_zero_le h0
  rw [wrap_u64, UInt64.toNat_ofNat']; simp
theorem w_u8_i {a : Int} (h0 : 0 ≤ a) : IntKind.u8.wrap a = ((UInt8.ofNat a.toNat).toNat : Int) := by
  obtain ⟨m, rfl⟩ := Int.eq_ofNat_of_zero_le h0
  rw [wrap_u8, UInt8.toNat_ofNat']; simp
end
/-! constants, read as words -/
section
variable {n : Nat} {σ : Nat → Value}
theorem c8 (k : Nat) (h : k < 256) : ev n σ (.const (.int .u8 (k : Int))) = V8 (UInt8.ofNat k) := by
  simp only [ev, V8, UInt8.toNat_ofNat']
  congr 1; omega
theorem c32 (k : Nat) (h : k < 4294967296) : ev n σ (.const (.int .u32 (k : Int))) = V32 (UInt32.ofNat k) := by
  simp only [ev, V32, UInt32.toNat_ofNat']
  congr 1; omega
theorem c64 (k : Nat) (h : k < 18446744073709551616) : ev n σ (.const (.int .u64 (k : Int))) = V64 (UInt64.ofNat k) := by
  simp only [ev, V64, UInt64.toNat_ofNat']
  congr 1; omega
end
end Go.Proofs.Ytjmbbhnpfmblpaa
