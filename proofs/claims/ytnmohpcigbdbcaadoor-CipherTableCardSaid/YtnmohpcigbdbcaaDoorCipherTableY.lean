/-
  What the functions of the given program reckon, each by a contract, up to the law. It is no claim by itself; each contract bears its own conditions.
-/
import Derived.Test.YtnmohpcigbdbcaaDoorCipherTableN
set_option linter.unusedVariables false
set_option linter.unusedSimpArgs false
namespace Go.Scr
open Go.Proofs

def bv (l : List UInt8) : List Value := l.map fun x => .int .u8 x.toNat
abbrev bz (l : List UInt8) : V := .z l.length (bv l)
def iv (l : List Int) : List Value := l.map fun x => .int .i64 x
abbrev iz (l : List Int) : V := .z l.length (iv l)
def wv (l : List UInt32) : List Value := l.map fun x => .int .u32 x.toNat
abbrev wz (l : List UInt32) : V := .z l.length (wv l)
abbrev i64 (n : Int) : V := .s (.int .i64 n)
abbrev u8 (x : UInt8) : V := .s (.int .u8 x.toNat)
abbrev u32 (x : UInt32) : V := .s (.int .u32 x.toNat)
abbrev u64 (x : UInt64) : V := .s (.int .u64 x.toNat)
abbrev vi (k : IntKind) (n : Int) : V := .s (.int k n)
abbrev bool (b : Bool) : V := .s (.bool b)
theorem spl_i {b : Bool} {x y : Prop} (h1 : b = true → x) (h2 : b = false → y) : spl b x y := by cases b; exact h2 rfl; exact h1 rfl
theorem spl_t {b : Bool} {x y : Prop} (h : b = true) (h1 : x) : spl b x y := by subst h; exact h1
theorem spl_f {b : Bool} {x y : Prop} (h : b = false) (h1 : y) : spl b x y := by subst h; exact h1
theorem bv_len (l : List UInt8) : (bv l).length = l.length := by simp [bv]
theorem iv_len (l : List Int) : (iv l).length = l.length := by simp [iv]
theorem wv_len (l : List UInt32) : (wv l).length = l.length := by simp [wv]
theorem bv_get {l : List UInt8} {i : Nat} (h : i < l.length) : (bv l)[i]? = some (.int .u8 (l[i]).toNat) := by simp [bv, h]
theorem iv_get {l : List Int} {i : Nat} (h : i < l.length) : (iv l)[i]? = some (.int .i64 l[i]) := by simp [iv, h]
theorem wv_get {l : List UInt32} {i : Nat} (h : i < l.length) : (wv l)[i]? = some (.int .u32 (l[i]).toNat) := by simp [wv, h]
theorem bv_sub (l : List UInt8) (i n : Nat) : sub (bv l) i n = bv (sub l i n) := by simp [bv, sub, List.map_take, List.map_drop]
theorem bv_set (l : List UInt8) (i : Nat) (x : UInt8) : (bv l).set i (.int .u8 x.toNat) = bv (l.set i x) := by simp [bv, List.map_set]
theorem bv_app (a b : List UInt8) : bv a ++ bv b = bv (a ++ b) := by simp [bv]
theorem wv_app (a b : List UInt32) : wv a ++ wv b = wv (a ++ b) := by simp [wv]
theorem bv_rep (n : Nat) : List.replicate n (Value.int .u8 0) = bv (List.replicate n 0) := by simp [bv]
theorem wrap_u8 (n : Int) : IntKind.u8.wrap n = n % 256 := by rw [IntKind.wrap_u8]
theorem wrap_u32 (n : Int) : IntKind.u32.wrap n = n % 4294967296 := by rw [IntKind.wrap_u32]
theorem wrap_u64 (n : Int) : IntKind.u64.wrap n = n % 18446744073709551616 := by simp [IntKind.wrap, IntKind.bits, IntKind.signed]
theorem bits_u32 : IntKind.u32.bits = 32 := rfl
theorem bits_u64 : IntKind.u64.bits = 64 := rfl
theorem bx_xor (n : Nat) {x y : Nat} (hx : x < 2 ^ n) (hy : y < 2 ^ n) : (BitVec.ofInt n (x : Int) ^^^ BitVec.ofInt n (y : Int)).toNat = x ^^^ y := by
  simp [BitVec.ofInt_natCast, Nat.mod_eq_of_lt hx, Nat.mod_eq_of_lt hy]
theorem bx_and (n : Nat) {x y : Nat} (hx : x < 2 ^ n) (hy : y < 2 ^ n) : (BitVec.ofInt n (x : Int) &&& BitVec.ofInt n (y : Int)).toNat = x &&& y := by
  simp [BitVec.ofInt_natCast, Nat.mod_eq_of_lt hx, Nat.mod_eq_of_lt hy]
theorem bx_or (n : Nat) {x y : Nat} (hx : x < 2 ^ n) (hy : y < 2 ^ n) : (BitVec.ofInt n (x : Int) ||| BitVec.ofInt n (y : Int)).toNat = x ||| y := by
  simp [BitVec.ofInt_natCast, Nat.mod_eq_of_lt hx, Nat.mod_eq_of_lt hy]
theorem u32_xor (a b : UInt32) : IntKind.u32.wrap ((BitVec.ofInt IntKind.u32.bits (a.toNat : Int) ^^^ BitVec.ofInt IntKind.u32.bits (b.toNat : Int)).toNat : Int) = ((a ^^^ b).toNat : Int) := by
  rw [wrap_u32, bx_xor IntKind.u32.bits a.toNat_lt b.toNat_lt, UInt32.toNat_xor]
  have := Nat.xor_lt_two_pow (n := 32) a.toNat_lt b.toNat_lt
  omega
theorem u32_and (a b : UInt32) : IntKind.u32.wrap ((BitVec.ofInt IntKind.u32.bits (a.toNat : Int) &&& BitVec.ofInt IntKind.u32.bits (b.toNat : Int)).toNat : Int) = ((a &&& b).toNat : Int) := by
  rw [wrap_u32, bx_and IntKind.u32.bits a.toNat_lt b.toNat_lt, UInt32.toNat_and]
  have := Nat.and_lt_two_pow (n := 32) a.toNat b.toNat_lt
  omega
theorem u32_add (a b : UInt32) : IntKind.u32.wrap ((a.toNat : Int) + b.toNat) = ((a + b).toNat : Int) := by
  rw [wrap_u32, UInt32.toNat_add]; omega
theorem u32_sub (a b : UInt32) : IntKind.u32.wrap ((a.toNat : Int) - b.toNat) = ((a - b).toNat : Int) := by
  have := b.toNat_lt
  rw [wrap_u32, UInt32.toNat_sub]; omega
theorem u64_or (a b : UInt64) : IntKind.u64.wrap ((BitVec.ofInt IntKind.u64.bits (a.toNat : Int) ||| BitVec.ofInt IntKind.u64.bits (b.toNat : Int)).toNat : Int) = ((a ||| b).toNat : Int) := by
  rw [wrap_u64, bx_or IntKind.u64.bits a.toNat_lt b.toNat_lt, UInt64.toNat_or]
  have := Nat.or_lt_two_pow (n := 64) a.toNat_lt b.toNat_lt
  omega
theorem u32_shl (a : UInt32) (n : Int) (h0 : 0 ≤ n) (h : n < 32) : IntKind.u32.wrap ((a.toNat : Int) * 2 ^ (min n.toNat IntKind.u32.bits)) = ((a <<< (UInt32.ofNat n.toNat)).toNat : Int) := by
  have hn : n.toNat < 32 := by omega
  have hm : n.toNat < 4294967296 := by omega
  rw [wrap_u32, show min n.toNat IntKind.u32.bits = n.toNat from by simp only [bits_u32]; omega, UInt32.toNat_shiftLeft, Nat.shiftLeft_eq, UInt32.toNat_ofNat', Nat.mod_eq_of_lt (show n.toNat < 2 ^ 32 from hm), Nat.mod_eq_of_lt hn]
  rw [Int.natCast_emod, Int.natCast_mul, Int.natCast_pow]; rfl
theorem u32_shr (a : UInt32) (n : Int) (h0 : 0 ≤ n) (h : n < 32) : ((a.toNat : Int).fdiv (2 ^ (min n.toNat IntKind.u32.bits))) = ((a >>> (UInt32.ofNat n.toNat)).toNat : Int) := by
  have hn : n.toNat < 32 := by omega
  have hm : n.toNat < 4294967296 := by omega
  rw [show min n.toNat IntKind.u32.bits = n.toNat from by simp only [bits_u32]; omega, UInt32.toNat_shiftRight, Nat.shiftRight_eq_div_pow, UInt32.toNat_ofNat', Nat.mod_eq_of_lt (show n.toNat < 2 ^ 32 from hm), Nat.mod_eq_of_lt hn, Int.fdiv_eq_ediv_of_nonneg _ (Int.le_of_lt (Int.pow_pos (by decide)))]
  rw [Int.natCast_ediv, Int.natCast_pow]; rfl
theorem u64_shl (a : UInt64) (n : Int) (h0 : 0 ≤ n) (h : n < 64) : IntKind.u64.wrap ((a.toNat : Int) * 2 ^ (min n.toNat IntKind.u64.bits)) = ((a <<< (UInt64.ofNat n.toNat)).toNat : Int) := by
  have hn : n.toNat < 64 := by omega
  have hm : n.toNat < 18446744073709551616 := by omega
  rw [wrap_u64, show min n.toNat IntKind.u64.bits = n.toNat from by simp only [bits_u64]; omega, UInt64.toNat_shiftLeft, Nat.shiftLeft_eq, UInt64.toNat_ofNat', Nat.mod_eq_of_lt (show n.toNat < 2 ^ 64 from hm), Nat.mod_eq_of_lt hn]
  rw [Int.natCast_emod, Int.natCast_mul, Int.natCast_pow]; rfl
theorem u64_shr (a : UInt64) (n : Int) (h0 : 0 ≤ n) (h : n < 64) : ((a.toNat : Int).fdiv (2 ^ (min n.toNat IntKind.u64.bits))) = ((a >>> (UInt64.ofNat n.toNat)).toNat : Int) := by
  have hn : n.toNat < 64 := by omega
  have hm : n.toNat < 18446744073709551616 := by omega
  rw [show min n.toNat IntKind.u64.bits = n.toNat from by simp only [bits_u64]; omega, UInt64.toNat_shiftRight, Nat.shiftRight_eq_div_pow, UInt64.toNat_ofNat', Nat.mod_eq_of_lt (show n.toNat < 2 ^ 64 from hm), Nat.mod_eq_of_lt hn, Int.fdiv_eq_ediv_of_nonneg _ (Int.le_of_lt (Int.pow_pos (by decide)))]
  rw [Int.natCast_ediv, Int.natCast_pow]; rfl
theorem u8_u64 (a : UInt8) : IntKind.u64.wrap (a.toNat : Int) = ((a.toUInt64).toNat : Int) := by
  have := a.toNat_lt
  rw [wrap_u64, UInt8.toNat_toUInt64]; omega
theorem u32_u64 (a : UInt32) : IntKind.u64.wrap (a.toNat : Int) = ((a.toUInt64).toNat : Int) := by
  have := a.toNat_lt
  rw [wrap_u64, UInt32.toNat_toUInt64]; omega
theorem u64_u8 (a : UInt64) : IntKind.u8.wrap (a.toNat : Int) = ((a.toUInt8).toNat : Int) := by
  rw [wrap_u8, UInt64.toNat_toUInt8]; omega
theorem u64_u32 (a : UInt64) : IntKind.u32.wrap (a.toNat : Int) = ((a.toUInt32).toNat : Int) := by
  rw [wrap_u32, UInt64.toNat_toUInt32]; omega
theorem nat_u8 (n : Nat) : IntKind.u8.wrap (n : Int) = ((UInt8.ofNat n).toNat : Int) := by
  rw [wrap_u8, UInt8.toNat_ofNat']; omega
theorem sub_length {α : Type} {xs : List α} {i n : Nat} : (sub xs i n).length = min n (xs.length - i) := by simp [sub]
theorem spl_d {p : Prop} [Decidable p] {x y : Prop} (h1 : p → x) (h2 : ¬ p → y) : spl (decide p) x y := by
  by_cases h : p
  · rw [decide_eq_true h]; exact h1 h
  · rw [decide_eq_false h]; exact h2 h
theorem spl_eq {m n : Int} {x y : Prop} (h1 : m = n → x) (h2 : m ≠ n → y) : spl (m == n) x y := spl_i (fun h => h1 (by simpa using h)) (fun h => h2 (by simpa using h))
def it {α : Type} (f : α → α) : Nat → α → α
  | 0, x => x
  | n + 1, x => f (it f n x)
theorem it_next {α : Type} {f : α → α} {i : Nat} {x z : α} (h : z = it f i x) : f z = it f (i + 1) x := by rw [h]; rfl
theorem scopeIt {β : Type} {C : Ctx} {rt : Rt} {m : Nat} {c : Code} {s : S} {K : X → S → Prop} (l : Nat) {p q : Code} (hs : splitL c l = some (p, q)) (f : β → β) (b0 : β) (n : Nat) (I : Nat → β → D) (h0 : vc C rt m p s fun e s' => match e with
      | .normal => ∃ (l : List (Nat × Nat × B)) (y : Nat × β), (y.1 ≤ n ∧ y.2 = it f y.1 b0) ∧ nils l 0 s' fun s' => Mt m s' (I y.1 y.2)
      | .goto l' => l' = l ∧ ∃ y : Nat × β, (y.1 ≤ n ∧ y.2 = it f y.1 b0) ∧ Mt m s' (I y.1 y.2)
      | e => K e s') (h : ∀ i z, i ≤ n → z = it f i b0 → vc C rt m q (I i z).s fun e s' => match e with
      | .goto l' => l' = l ∧ ∃ y : Nat × β, (y.1 ≤ n ∧ y.2 = it f y.1 b0) ∧ n - y.1 < n - i ∧ Mt m s' (I y.1 y.2)
      | e => K e s') : scopeVC C rt m c s K :=
  ⟨l, Nat × β, fun x => I x.1 x.2, fun x => x.1 ≤ n ∧ x.2 = it f x.1 b0, fun x => n - x.1, by rw [hs]; exact ⟨h0, fun x hx => h x.1 x.2 hx.1 hx.2⟩⟩
/-- A loop that counts up to `n`. -/
theorem loopN {m : Nat} {body : S → (X → S → Prop) → Prop} {s : S} {K : X → S → Prop} (I : Nat → D) (n : Nat) (h0 : Mt m s (I 0)) (h : ∀ i, i ≤ n → body (I i).s fun e s' => match e with
      | .normal => ∃ y, y ≤ n ∧ n - y < n - i ∧ Mt m s' (I y)
      | e => K e s') : LoopVC m body s K :=
  ⟨Nat, I, fun i => i ≤ n, fun i => n - i, ⟨[], 0, Nat.zero_le _, h0⟩, h⟩
/-- A loop that counts up to `n`. -/
theorem loopNn {m : Nat} {body : S → (X → S → Prop) → Prop} {s : S} {K : X → S → Prop} (I : Nat → D) (n : Nat) (l : List (Nat × Nat × B)) (h0 : nils l 0 s fun s => Mt m s (I 0)) (h : ∀ i, i ≤ n → body (I i).s fun e s' => match e with
      | .normal => ∃ y, y ≤ n ∧ n - y < n - i ∧ Mt m s' (I y)
      | e => K e s') : LoopVC m body s K :=
  ⟨Nat, I, fun i => i ≤ n, fun i => n - i, ⟨l, 0, Nat.zero_le _, h0⟩, h⟩
def loadL (l : List UInt8) : UInt64 := l.foldl (fun n x => n <<< 8 ||| x.toUInt64) 0
def storeL (n : UInt64) : Nat → List UInt8
  | 0 => []
  | k + 1 => storeL (n >>> 8) k ++ [n.toUInt8]
theorem storeL_len : ∀ (k : Nat) (n : UInt64), (storeL n k).length = k
  | 0, _ => rfl
  | k + 1, n => by simp [storeL, storeL_len k]
theorem rest_eq (n b : Int) (hb : 0 < b) : (n.tmod b + b).tmod b = n % b := by
  have h1 : -b < n.tmod b := Int.lt_tmod_of_pos n hb
  rw [Int.tmod_eq_emod_of_nonneg (by omega), Int.add_emod_right, Int.tmod_def, Int.sub_mul_emod_self_left]
theorem loadL_step {l : List UInt8} {i : Nat} (h : i < l.length) : loadL (l.take (i + 1)) = loadL (l.take i) <<< 8 ||| (l[i]).toUInt64 := by
  unfold loadL
  rw [List.take_succ_eq_append_getElem h, List.foldl_append]
  rfl
theorem c_load {n : Nat} {va : List Value} {l : List UInt8} (ha : va = bv l) (hn : l.length = n) (hm : n ≤ 1073741824) : Con C N.words_load [.z n va] [] (.ret (u64 (loadL l))) [] := by
  subst ha; subst hn
  refine con.words_load ?_
  refine ⟨0, Nat, fun i => ⟨[(0, bz l), (3, u64 (loadL (l.take i))), (4, i64 i)], []⟩, fun i => i ≤ l.length, fun i => l.length - i, ⟨[], 0, Nat.zero_le _, [], ⟨rfl, rfl, rfl, trivial⟩, trivial⟩, fun i hi => ?_⟩
  refine spl_d (fun h => ?_) (fun h => ?_)
  · have hlt : i < l.length := (by omega)
    refine ⟨(by first | omega | (simp only [storeL_len, bv_len, iv_len, wv_len, List.length_append, List.length_replicate, List.length_set, List.length_take, List.length_drop, List.length_cons, List.length_nil, sub_length, List.length_reverse, List.length_map, List.length_zipWith]; omega) | (dsimp only; omega) | (dsimp only; simp only [IntKind.wrap_i64, storeL_len, bv_len, iv_len, wv_len, List.length_append, List.length_replicate, List.length_set, List.length_take, List.length_drop, List.length_cons, List.length_nil, sub_length, List.length_reverse, List.length_map, List.length_zipWith]; omega) | (simp only [IntKind.wrap_i64, storeL_len, bv_len, iv_len, wv_len, List.length_append, List.length_replicate, List.length_set, List.length_take, List.length_drop, List.length_cons, List.length_nil, sub_length, List.length_reverse, List.length_map, List.length_zipWith]; omega) | decide | (simp [storeL_len, bv_len, iv_len, wv_len, List.length_append, List.length_replicate, List.length_set, List.length_take, List.length_drop, List.length_cons, List.length_nil, sub_length, List.length_reverse, List.length_map, List.length_zipWith]; done) | (simp [storeL_len, bv_len, iv_len, wv_len, List.length_append, List.length_replicate, List.length_set, List.length_take, List.length_drop, List.length_cons, List.length_nil, sub_length, List.length_reverse, List.length_map, List.length_zipWith]; omega)), (by first | omega | (simp only [storeL_len, bv_len, iv_len, wv_len, List.length_append, List.length_replicate, List.length_set, List.length_take, List.length_drop, List.length_cons, List.length_nil, sub_length, List.length_reverse, List.length_map, List.length_zipWith]; omega) | (dsimp only; omega) | (dsimp only; simp only [IntKind.wrap_i64, storeL_len, bv_len, iv_len, wv_len, List.length_append, List.length_replicate, List.length_set, List.length_take, List.length_drop, List.length_cons, List.length_nil, sub_length, List.length_reverse, List.length_map, List.length_zipWith]; omega) | (simp only [IntKind.wrap_i64, storeL_len, bv_len, iv_len, wv_len, List.length_append, List.length_replicate, List.length_set, List.length_take, List.length_drop, List.length_cons, List.length_nil, sub_length, List.length_reverse, List.length_map, List.length_zipWith]; omega) | decide | (simp [storeL_len, bv_len, iv_len, wv_len, List.length_append, List.length_replicate, List.length_set, List.length_take, List.length_drop, List.length_cons, List.length_nil, sub_length, List.length_reverse, List.length_map, List.length_zipWith]; done) | (simp [storeL_len, bv_len, iv_len, wv_len, List.length_append, List.length_replicate, List.length_set, List.length_take, List.length_drop, List.length_cons, List.length_nil, sub_length, List.length_reverse, List.length_map, List.length_zipWith]; omega)), (by first | omega | (simp only [storeL_len, bv_len, iv_len, wv_len, List.length_append, List.length_replicate, List.length_set, List.length_take, List.length_drop, List.length_cons, List.length_nil, sub_length, List.length_reverse, List.length_map, List.length_zipWith]; omega) | (dsimp only; omega) | (dsimp only; simp only [IntKind.wrap_i64, storeL_len, bv_len, iv_len, wv_len, List.length_append, List.length_replicate, List.length_set, List.length_take, List.length_drop, List.length_cons, List.length_nil, sub_length, List.length_reverse, List.length_map, List.length_zipWith]; omega) | (simp only [IntKind.wrap_i64, storeL_len, bv_len, iv_len, wv_len, List.length_append, List.length_replicate, List.length_set, List.length_take, List.length_drop, List.length_cons, List.length_nil, sub_length, List.length_reverse, List.length_map, List.length_zipWith]; omega) | decide | (simp [storeL_len, bv_len, iv_len, wv_len, List.length_append, List.length_replicate, List.length_set, List.length_take, List.length_drop, List.length_cons, List.length_nil, sub_length, List.length_reverse, List.length_map, List.length_zipWith]; done) | (simp [storeL_len, bv_len, iv_len, wv_len, List.length_append, List.length_replicate, List.length_set, List.length_take, List.length_drop, List.length_cons, List.length_nil, sub_length, List.length_reverse, List.length_map, List.length_zipWith]; omega)), _, bv_get (i := i) hlt, ?_⟩
    refine ⟨rfl, i + 1, hlt, Nat.sub_succ_lt_self _ _ hlt, [], ⟨rfl, congrArg (vi .u64) ?_, congrArg (vi .i64) (by first | rfl | (simp only [IntKind.wrap_i64]; omega) | (simp only [IntKind.wrap_i64, storeL_len, bv_len, iv_len, wv_len, List.length_append, List.length_replicate, List.length_set, List.length_take, List.length_drop, List.length_cons, List.length_nil, sub_length, List.length_reverse, List.length_map, List.length_zipWith]; omega)), trivial⟩, trivial⟩
    rw [u64_shl _ _ (by decide) (by decide), u8_u64, u64_or, loadL_step hlt]
    rfl
  · obtain rfl : i = l.length := Nat.le_antisymm hi (by omega)
    refine ⟨_, rfl, [], congrArg (vi .u64) ?_, trivial⟩
    rw [List.take_length]
/-- What is left to be written: `i` bytes of `n` ahead of what stands. -/
theorem c_store {x : Int} {n : UInt64} {k : Int} {m : Nat} (hx : x = n.toNat) (hk : k = m) (hm : m ≤ 1073741824) : Con C N.words_store [vi .u64 x, i64 k] [] (.ret (.o 1 (.k 0) 0 m)) [.sc (bv (storeL n m))] := by
  subst hk; subst hx
  refine con.words_store ?_
  refine ⟨0, Nat × UInt64 × List UInt8, fun x => ⟨[(0, u64 x.2.1), (5, .o 1 (.k 0) 0 m), (6, i64 x.1)], [.sc (bv (List.replicate x.1 0 ++ x.2.2))]⟩, fun x => x.1 ≤ m ∧ x.1 + x.2.2.length = m ∧ storeL x.2.1 x.1 ++ x.2.2 = storeL n m, fun x => x.1,
    ⟨(by omega), (by omega), (by omega), [], (m, n, []), ⟨Nat.le_refl _, by simp, by simp⟩, [.d 8 0], ⟨rfl, rfl, rfl, trivial⟩, ⟨_, rfl, congrArg B.sc (by simp [bv])⟩, trivial⟩, ?_⟩
  rintro ⟨i, v, l⟩ ⟨hi, hl, he⟩
  simp only at hi hl he
  refine spl_d (fun h => ?_) (fun h => ?_)
  · have hp : 0 < i := (by omega)
    have e1 : IntKind.i64.wrap ((i : Int) - 1) = ((i - 1 : Nat) : Int) := by simp only [IntKind.wrap_i64]; omega
    refine ⟨(by first | omega | (simp only [storeL_len, bv_len, iv_len, wv_len, List.length_append, List.length_replicate, List.length_set, List.length_take, List.length_drop, List.length_cons, List.length_nil, sub_length, List.length_reverse, List.length_map, List.length_zipWith]; omega) | (dsimp only; omega) | (dsimp only; simp only [IntKind.wrap_i64, storeL_len, bv_len, iv_len, wv_len, List.length_append, List.length_replicate, List.length_set, List.length_take, List.length_drop, List.length_cons, List.length_nil, sub_length, List.length_reverse, List.length_map, List.length_zipWith]; omega) | (simp only [IntKind.wrap_i64, storeL_len, bv_len, iv_len, wv_len, List.length_append, List.length_replicate, List.length_set, List.length_take, List.length_drop, List.length_cons, List.length_nil, sub_length, List.length_reverse, List.length_map, List.length_zipWith]; omega) | decide | (simp [storeL_len, bv_len, iv_len, wv_len, List.length_append, List.length_replicate, List.length_set, List.length_take, List.length_drop, List.length_cons, List.length_nil, sub_length, List.length_reverse, List.length_map, List.length_zipWith]; done) | (simp [storeL_len, bv_len, iv_len, wv_len, List.length_append, List.length_replicate, List.length_set, List.length_take, List.length_drop, List.length_cons, List.length_nil, sub_length, List.length_reverse, List.length_map, List.length_zipWith]; omega)), (by first | omega | (simp only [storeL_len, bv_len, iv_len, wv_len, List.length_append, List.length_replicate, List.length_set, List.length_take, List.length_drop, List.length_cons, List.length_nil, sub_length, List.length_reverse, List.length_map, List.length_zipWith]; omega) | (dsimp only; omega) | (dsimp only; simp only [IntKind.wrap_i64, storeL_len, bv_len, iv_len, wv_len, List.length_append, List.length_replicate, List.length_set, List.length_take, List.length_drop, List.length_cons, List.length_nil, sub_length, List.length_reverse, List.length_map, List.length_zipWith]; omega) | (simp only [IntKind.wrap_i64, storeL_len, bv_len, iv_len, wv_len, List.length_append, List.length_replicate, List.length_set, List.length_take, List.length_drop, List.length_cons, List.length_nil, sub_length, List.length_reverse, List.length_map, List.length_zipWith]; omega) | decide | (simp [storeL_len, bv_len, iv_len, wv_len, List.length_append, List.length_replicate, List.length_set, List.length_take, List.length_drop, List.length_cons, List.length_nil, sub_length, List.length_reverse, List.length_map, List.length_zipWith]; done) | (simp [storeL_len, bv_len, iv_len, wv_len, List.length_append, List.length_replicate, List.length_set, List.length_take, List.length_drop, List.length_cons, List.length_nil, sub_length, List.length_reverse, List.length_map, List.length_zipWith]; omega)), (by first | omega | (simp only [storeL_len, bv_len, iv_len, wv_len, List.length_append, List.length_replicate, List.length_set, List.length_take, List.length_drop, List.length_cons, List.length_nil, sub_length, List.length_reverse, List.length_map, List.length_zipWith]; omega) | (dsimp only; omega) | (dsimp only; simp only [IntKind.wrap_i64, storeL_len, bv_len, iv_len, wv_len, List.length_append, List.length_replicate, List.length_set, List.length_take, List.length_drop, List.length_cons, List.length_nil, sub_length, List.length_reverse, List.length_map, List.length_zipWith]; omega) | (simp only [IntKind.wrap_i64, storeL_len, bv_len, iv_len, wv_len, List.length_append, List.length_replicate, List.length_set, List.length_take, List.length_drop, List.length_cons, List.length_nil, sub_length, List.length_reverse, List.length_map, List.length_zipWith]; omega) | decide | (simp [storeL_len, bv_len, iv_len, wv_len, List.length_append, List.length_replicate, List.length_set, List.length_take, List.length_drop, List.length_cons, List.length_nil, sub_length, List.length_reverse, List.length_map, List.length_zipWith]; done) | (simp [storeL_len, bv_len, iv_len, wv_len, List.length_append, List.length_replicate, List.length_set, List.length_take, List.length_drop, List.length_cons, List.length_nil, sub_length, List.length_reverse, List.length_map, List.length_zipWith]; omega)), (by first | omega | (simp only [storeL_len, bv_len, iv_len, wv_len, List.length_append, List.length_replicate, List.length_set, List.length_take, List.length_drop, List.length_cons, List.length_nil, sub_length, List.length_reverse, List.length_map, List.length_zipWith]; omega) | (dsimp only; omega) | (dsimp only; simp only [IntKind.wrap_i64, storeL_len, bv_len, iv_len, wv_len, List.length_append, List.length_replicate, List.length_set, List.length_take, List.length_drop, List.length_cons, List.length_nil, sub_length, List.length_reverse, List.length_map, List.length_zipWith]; omega) | (simp only [IntKind.wrap_i64, storeL_len, bv_len, iv_len, wv_len, List.length_append, List.length_replicate, List.length_set, List.length_take, List.length_drop, List.length_cons, List.length_nil, sub_length, List.length_reverse, List.length_map, List.length_zipWith]; omega) | decide | (simp [storeL_len, bv_len, iv_len, wv_len, List.length_append, List.length_replicate, List.length_set, List.length_take, List.length_drop, List.length_cons, List.length_nil, sub_length, List.length_reverse, List.length_map, List.length_zipWith]; done) | (simp [storeL_len, bv_len, iv_len, wv_len, List.length_append, List.length_replicate, List.length_set, List.length_take, List.length_drop, List.length_cons, List.length_nil, sub_length, List.length_reverse, List.length_map, List.length_zipWith]; omega)), rfl, (i - 1, v >>> 8, v.toUInt8 :: l), ⟨(by first | omega | (simp only [storeL_len, bv_len, iv_len, wv_len, List.length_append, List.length_replicate, List.length_set, List.length_take, List.length_drop, List.length_cons, List.length_nil, sub_length, List.length_reverse, List.length_map, List.length_zipWith]; omega) | (dsimp only; omega) | (dsimp only; simp only [IntKind.wrap_i64, storeL_len, bv_len, iv_len, wv_len, List.length_append, List.length_replicate, List.length_set, List.length_take, List.length_drop, List.length_cons, List.length_nil, sub_length, List.length_reverse, List.length_map, List.length_zipWith]; omega) | (simp only [IntKind.wrap_i64, storeL_len, bv_len, iv_len, wv_len, List.length_append, List.length_replicate, List.length_set, List.length_take, List.length_drop, List.length_cons, List.length_nil, sub_length, List.length_reverse, List.length_map, List.length_zipWith]; omega) | decide | (simp [storeL_len, bv_len, iv_len, wv_len, List.length_append, List.length_replicate, List.length_set, List.length_take, List.length_drop, List.length_cons, List.length_nil, sub_length, List.length_reverse, List.length_map, List.length_zipWith]; done) | (simp [storeL_len, bv_len, iv_len, wv_len, List.length_append, List.length_replicate, List.length_set, List.length_take, List.length_drop, List.length_cons, List.length_nil, sub_length, List.length_reverse, List.length_map, List.length_zipWith]; omega)), (by first | omega | (simp only [storeL_len, bv_len, iv_len, wv_len, List.length_append, List.length_replicate, List.length_set, List.length_take, List.length_drop, List.length_cons, List.length_nil, sub_length, List.length_reverse, List.length_map, List.length_zipWith]; omega) | (dsimp only; omega) | (dsimp only; simp only [IntKind.wrap_i64, storeL_len, bv_len, iv_len, wv_len, List.length_append, List.length_replicate, List.length_set, List.length_take, List.length_drop, List.length_cons, List.length_nil, sub_length, List.length_reverse, List.length_map, List.length_zipWith]; omega) | (simp only [IntKind.wrap_i64, storeL_len, bv_len, iv_len, wv_len, List.length_append, List.length_replicate, List.length_set, List.length_take, List.length_drop, List.length_cons, List.length_nil, sub_length, List.length_reverse, List.length_map, List.length_zipWith]; omega) | decide | (simp [storeL_len, bv_len, iv_len, wv_len, List.length_append, List.length_replicate, List.length_set, List.length_take, List.length_drop, List.length_cons, List.length_nil, sub_length, List.length_reverse, List.length_map, List.length_zipWith]; done) | (simp [storeL_len, bv_len, iv_len, wv_len, List.length_append, List.length_replicate, List.length_set, List.length_take, List.length_drop, List.length_cons, List.length_nil, sub_length, List.length_reverse, List.length_map, List.length_zipWith]; omega)), ?_⟩, (by first | omega | (simp only [storeL_len, bv_len, iv_len, wv_len, List.length_append, List.length_replicate, List.length_set, List.length_take, List.length_drop, List.length_cons, List.length_nil, sub_length, List.length_reverse, List.length_map, List.length_zipWith]; omega) | (dsimp only; omega) | (dsimp only; simp only [IntKind.wrap_i64, storeL_len, bv_len, iv_len, wv_len, List.length_append, List.length_replicate, List.length_set, List.length_take, List.length_drop, List.length_cons, List.length_nil, sub_length, List.length_reverse, List.length_map, List.length_zipWith]; omega) | (simp only [IntKind.wrap_i64, storeL_len, bv_len, iv_len, wv_len, List.length_append, List.length_replicate, List.length_set, List.length_take, List.length_drop, List.length_cons, List.length_nil, sub_length, List.length_reverse, List.length_map, List.length_zipWith]; omega) | decide | (simp [storeL_len, bv_len, iv_len, wv_len, List.length_append, List.length_replicate, List.length_set, List.length_take, List.length_drop, List.length_cons, List.length_nil, sub_length, List.length_reverse, List.length_map, List.length_zipWith]; done) | (simp [storeL_len, bv_len, iv_len, wv_len, List.length_append, List.length_replicate, List.length_set, List.length_take, List.length_drop, List.length_cons, List.length_nil, sub_length, List.length_reverse, List.length_map, List.length_zipWith]; omega)), [.k 0], ⟨congrArg (vi .u64) ?_, rfl, congrArg (vi .i64) e1, trivial⟩, ⟨_, rfl, congrArg B.sc ?_⟩, trivial⟩
    · obtain ⟨j, rfl⟩ : ∃ j, i = j + 1 := ⟨i - 1, (by omega)⟩
      rw [← he]
      simp [storeL]
    · exact u64_shr v 8 (by decide) (by decide)
    · rw [e1, u64_u8, bv_set]
      congr 1
      obtain ⟨j, rfl⟩ : ∃ j, i = j + 1 := ⟨i - 1, (by omega)⟩
      simp [List.replicate_succ']
  · obtain rfl : i = 0 := (by omega)
    refine ⟨_, rfl, [.k 0], rfl, ⟨_, rfl, congrArg B.sc ?_⟩, trivial⟩
    rw [show l = storeL n m by simpa [storeL] using he]; rfl
theorem c_be32 {n : Nat} {va : List Value} {l : List UInt8} (ha : va = bv l) (hn : l.length = 4) (hn' : n = 4) : Con C N.words_Be32 [.z n va] [] (.ret (.t [u32 (loadL l).toUInt32, bool true])) [] := by
  subst hn'
  refine con.words_Be32 ?_
  refine ⟨[], _, _, _, _, c_load ha hn (by omega), rfl, rfl, ?_⟩
  refine ⟨_, rfl, [], congrArg (fun n => V.t [vi .u32 n, bool true]) ?_, trivial⟩
  exact u64_u32 _
theorem sub_all {α : Type} {l : List α} {n : Nat} (h : l.length = n) : sub l 0 n = l := by subst h; simp [sub]
theorem bv_all {l : List UInt8} {n : Nat} (h : l.length = n) : sub (bv l) 0 n = bv l := sub_all (by rw [bv_len, h])
theorem iv_all {l : List Int} {n : Nat} (h : l.length = n) : sub (iv l) 0 n = iv l := sub_all (by rw [iv_len, h])
theorem wv_all {l : List UInt32} {n : Nat} (h : l.length = n) : sub (wv l) 0 n = wv l := sub_all (by rw [wv_len, h])
theorem c_putBe32 {x : Int} {v : UInt32} (hx : x = v.toNat) : Con C N.words_PutBe32 [vi .u32 x] [] (.ret (.o 1 (.k 0) 0 4)) [.sc (bv (storeL v.toUInt64 4))] := by
  subst hx
  refine con.words_PutBe32 ?_
  refine ⟨[], _, _, _, _, c_store (m := 4) (u32_u64 v) rfl (by omega), rfl, rfl, ?_⟩
  exact ⟨_, rfl, [.d 5 0], rfl, ⟨_, rfl, rfl⟩, trivial⟩
theorem wv_getD {k : List UInt32} {i : Nat} (h : i < k.length) : (wv k)[i]? = some (.int .u32 (k.getD i 0).toNat) := by
  rw [wv_get h, List.getD_eq_getElem?_getD, List.getElem?_eq_getElem h]; rfl
theorem iv_getD {k : List Int} {i : Nat} (h : i < k.length) : (iv k)[i]? = some (.int .i64 (k.getD i 0)) := by
  rw [iv_get h, List.getD_eq_getElem?_getD, List.getElem?_eq_getElem h]; rfl
theorem c_growB {n : Int} (h : 0 < n) (hm : n ≤ 1073741824) : Con C N.slices_Grow_byte [.s (.slice none 0 0), i64 n] [] (.ret (.o 1 (.k 0) 0 0)) [.sc (bv (List.replicate n.toNat 0))] := by
  refine con.slices_Grow_byte ?_
  refine spl_d (fun h => absurd h (by omega)) (fun _ => ?_)
  have e1 : IntKind.i64.wrap (n - IntKind.i64.wrap (0 - ((0 : Nat) : Int))) = n := by simp only [IntKind.wrap_i64]; omega
  refine spl_t (decide_eq_true (by rw [e1]; exact h)) ?_
  refine ⟨Int.le_refl 0, Nat.le_refl 0, Nat.le_refl 0, Nat.le_refl 0, ?_⟩
  refine ⟨by rw [e1]; exact h, by rw [e1]; exact hm, _, rfl, ?_⟩
  refine ⟨Int.le_refl 0, Nat.le_refl 0, Nat.le_refl 0, Nat.zero_le _, ?_⟩
  refine ⟨_, rfl, [.d 22 0], rfl, ⟨_, rfl, congrArg B.sc ?_⟩, trivial⟩
  rw [e1]
  exact bv_rep _
/-- Bytes, one behind the other. -/
theorem c_concatB {n : Nat} {ls : List (List UInt8)} {xs : List V} (hx : xs = ls.map fun l => bz l) (hn : ls.length = n) (h0 : 0 < ls.flatten.length) (hm : ls.flatten.length ≤ 1073741824) (hn2 : n ≤ 1073741824) : Con C N.slices_Concat_byte [.zz 1 n xs] [] (.ret (.o 1 (.k 0) 0 ls.flatten.length)) [.sc (bv ls.flatten)] := by
  subst hx; subst hn
  have get : ∀ i, (h : i < ls.length) → (ls.map fun l => bz l)[i]? = some (bz ls[i]) := fun i h => by simp [h]
  have stepL : ∀ i, (h : i < ls.length) → (ls.take (i + 1)).flatten = (ls.take i).flatten ++ ls[i] := fun i h => by rw [List.take_succ_eq_append_getElem h, List.flatten_append, List.flatten_cons, List.flatten_nil, List.append_nil]
  have le : ∀ i, (ls.take i).flatten.length ≤ ls.flatten.length := fun i => by
    conv => rhs; rw [← List.take_append_drop i ls, List.flatten_append, List.length_append]
    omega
  refine con.slices_Concat_byte ?_
  refine loopN (fun i => ⟨[(0, .zz 1 ls.length (ls.map fun l => bz l)), (3, i64 (ls.take i).flatten.length), (9, .zz 1 ls.length (ls.map fun l => bz l)), (10, i64 ls.length), (11, i64 i)], []⟩) ls.length ⟨[], ⟨rfl, rfl, rfl, rfl, rfl, trivial⟩, trivial⟩ fun i hi => ?_
  refine spl_d (fun h => ?_) (fun h => ?_)
  · have hlt : i < ls.length := (by omega)
    have e : ((i : Int)).toNat * 1 = i := (by omega)
    have l1 := le (i + 1)
    rw [stepL i hlt, List.length_append] at l1
    have e1 : IntKind.i64.wrap (((ls.take i).flatten.length : Int) + (ls[i].length : Nat)) = ((ls.take (i + 1)).flatten.length : Nat) := by rw [stepL i hlt, List.length_append]; simp only [IntKind.wrap_i64]; omega
    refine ⟨(by omega), (by omega), ?_⟩
    refine ⟨_, by rw [e]; exact get i hlt, ?_⟩
    refine spl_f (decide_eq_false (by rw [e1]; omega)) ?_
    exact ⟨i + 1, (by omega), (by omega), [], ⟨rfl, congrArg (vi .i64) e1, rfl, rfl, congrArg (vi .i64) (by first | rfl | (simp only [IntKind.wrap_i64]; omega) | (simp only [IntKind.wrap_i64, storeL_len, bv_len, iv_len, wv_len, List.length_append, List.length_replicate, List.length_set, List.length_take, List.length_drop, List.length_cons, List.length_nil, sub_length, List.length_reverse, List.length_map, List.length_zipWith]; omega)), trivial⟩, trivial⟩
  · obtain rfl : i = ls.length := (by omega)
    refine ⟨[], _, _, _, _, c_growB (n := ls.flatten.length) (by omega) (by omega), ?_, rfl, ?_⟩
    · show [V.s (.slice none 0 0), i64 _] = _
      rw [List.take_length]
    refine ⟨Nat × List UInt8, fun x => ⟨[(6, .o 1 (.k 0) 0 (ls.take x.1).flatten.length), (25, .zz 1 ls.length (ls.map fun l => bz l)), (26, i64 ls.length), (27, i64 x.1)], [.sc (bv ((ls.take x.1).flatten ++ x.2))]⟩, fun x => x.1 ≤ ls.length ∧ (x.1 = ls.length → x.2 = []), fun x => ls.length - x.1, ⟨[], (0, List.replicate ls.flatten.length 0), ⟨Nat.zero_le _, fun h => ?_⟩, [.d 24 0], ⟨rfl, rfl, rfl, rfl, trivial⟩, ⟨_, rfl, congrArg B.sc ?_⟩, trivial⟩, ?_⟩
    · exfalso
      have : ls = [] := List.eq_nil_of_length_eq_zero h.symm
      subst this
      simp at h0
    · simp
    rintro ⟨i, z⟩ ⟨hi, hz⟩
    simp only at hi hz
    refine spl_d (fun h => ?_) (fun h => ?_)
    · have hlt : i < ls.length := (by omega)
      have e : ((i : Int)).toNat * 1 = i := (by omega)
      have l1 := le (i + 1)
      rw [stepL i hlt, List.length_append] at l1
      refine ⟨(by omega), (by omega), ?_⟩
      refine ⟨_, by rw [e]; exact get i hlt, ?_⟩
      refine ⟨(by first | omega | (simp only [storeL_len, bv_len, iv_len, wv_len, List.length_append, List.length_replicate, List.length_set, List.length_take, List.length_drop, List.length_cons, List.length_nil, sub_length, List.length_reverse, List.length_map, List.length_zipWith]; omega) | (dsimp only; omega) | (dsimp only; simp only [IntKind.wrap_i64, storeL_len, bv_len, iv_len, wv_len, List.length_append, List.length_replicate, List.length_set, List.length_take, List.length_drop, List.length_cons, List.length_nil, sub_length, List.length_reverse, List.length_map, List.length_zipWith]; omega) | (simp only [IntKind.wrap_i64, storeL_len, bv_len, iv_len, wv_len, List.length_append, List.length_replicate, List.length_set, List.length_take, List.length_drop, List.length_cons, List.length_nil, sub_length, List.length_reverse, List.length_map, List.length_zipWith]; omega) | decide | (simp [storeL_len, bv_len, iv_len, wv_len, List.length_append, List.length_replicate, List.length_set, List.length_take, List.length_drop, List.length_cons, List.length_nil, sub_length, List.length_reverse, List.length_map, List.length_zipWith]; done) | (simp [storeL_len, bv_len, iv_len, wv_len, List.length_append, List.length_replicate, List.length_set, List.length_take, List.length_drop, List.length_cons, List.length_nil, sub_length, List.length_reverse, List.length_map, List.length_zipWith]; omega)), (by first | omega | (simp only [storeL_len, bv_len, iv_len, wv_len, List.length_append, List.length_replicate, List.length_set, List.length_take, List.length_drop, List.length_cons, List.length_nil, sub_length, List.length_reverse, List.length_map, List.length_zipWith]; omega) | (dsimp only; omega) | (dsimp only; simp only [IntKind.wrap_i64, storeL_len, bv_len, iv_len, wv_len, List.length_append, List.length_replicate, List.length_set, List.length_take, List.length_drop, List.length_cons, List.length_nil, sub_length, List.length_reverse, List.length_map, List.length_zipWith]; omega) | (simp only [IntKind.wrap_i64, storeL_len, bv_len, iv_len, wv_len, List.length_append, List.length_replicate, List.length_set, List.length_take, List.length_drop, List.length_cons, List.length_nil, sub_length, List.length_reverse, List.length_map, List.length_zipWith]; omega) | decide | (simp [storeL_len, bv_len, iv_len, wv_len, List.length_append, List.length_replicate, List.length_set, List.length_take, List.length_drop, List.length_cons, List.length_nil, sub_length, List.length_reverse, List.length_map, List.length_zipWith]; done) | (simp [storeL_len, bv_len, iv_len, wv_len, List.length_append, List.length_replicate, List.length_set, List.length_take, List.length_drop, List.length_cons, List.length_nil, sub_length, List.length_reverse, List.length_map, List.length_zipWith]; omega)), (by first | omega | (simp only [storeL_len, bv_len, iv_len, wv_len, List.length_append, List.length_replicate, List.length_set, List.length_take, List.length_drop, List.length_cons, List.length_nil, sub_length, List.length_reverse, List.length_map, List.length_zipWith]; omega) | (dsimp only; omega) | (dsimp only; simp only [IntKind.wrap_i64, storeL_len, bv_len, iv_len, wv_len, List.length_append, List.length_replicate, List.length_set, List.length_take, List.length_drop, List.length_cons, List.length_nil, sub_length, List.length_reverse, List.length_map, List.length_zipWith]; omega) | (simp only [IntKind.wrap_i64, storeL_len, bv_len, iv_len, wv_len, List.length_append, List.length_replicate, List.length_set, List.length_take, List.length_drop, List.length_cons, List.length_nil, sub_length, List.length_reverse, List.length_map, List.length_zipWith]; omega) | decide | (simp [storeL_len, bv_len, iv_len, wv_len, List.length_append, List.length_replicate, List.length_set, List.length_take, List.length_drop, List.length_cons, List.length_nil, sub_length, List.length_reverse, List.length_map, List.length_zipWith]; done) | (simp [storeL_len, bv_len, iv_len, wv_len, List.length_append, List.length_replicate, List.length_set, List.length_take, List.length_drop, List.length_cons, List.length_nil, sub_length, List.length_reverse, List.length_map, List.length_zipWith]; omega)), ?_⟩
      refine ⟨(i + 1, []), ⟨(by omega), fun _ => rfl⟩, (by first | omega | (simp only [storeL_len, bv_len, iv_len, wv_len, List.length_append, List.length_replicate, List.length_set, List.length_take, List.length_drop, List.length_cons, List.length_nil, sub_length, List.length_reverse, List.length_map, List.length_zipWith]; omega) | (dsimp only; omega) | (dsimp only; simp only [IntKind.wrap_i64, storeL_len, bv_len, iv_len, wv_len, List.length_append, List.length_replicate, List.length_set, List.length_take, List.length_drop, List.length_cons, List.length_nil, sub_length, List.length_reverse, List.length_map, List.length_zipWith]; omega) | (simp only [IntKind.wrap_i64, storeL_len, bv_len, iv_len, wv_len, List.length_append, List.length_replicate, List.length_set, List.length_take, List.length_drop, List.length_cons, List.length_nil, sub_length, List.length_reverse, List.length_map, List.length_zipWith]; omega) | decide | (simp [storeL_len, bv_len, iv_len, wv_len, List.length_append, List.length_replicate, List.length_set, List.length_take, List.length_drop, List.length_cons, List.length_nil, sub_length, List.length_reverse, List.length_map, List.length_zipWith]; done) | (simp [storeL_len, bv_len, iv_len, wv_len, List.length_append, List.length_replicate, List.length_set, List.length_take, List.length_drop, List.length_cons, List.length_nil, sub_length, List.length_reverse, List.length_map, List.length_zipWith]; omega)), [.d 33 0], ⟨?_, rfl, rfl, congrArg (vi .i64) (by first | rfl | (simp only [IntKind.wrap_i64]; omega) | (simp only [IntKind.wrap_i64, storeL_len, bv_len, iv_len, wv_len, List.length_append, List.length_replicate, List.length_set, List.length_take, List.length_drop, List.length_cons, List.length_nil, sub_length, List.length_reverse, List.length_map, List.length_zipWith]; omega)), trivial⟩, ⟨_, rfl, congrArg B.sc ?_⟩, trivial⟩
      · show V.o 1 (.k 0) 0 _ = V.o 1 (.k 0) 0 _
        rw [stepL i hlt, List.length_append]
      · rw [bv_sub, bv_app, stepL i hlt]
        simp [sub]
    · obtain rfl : i = ls.length := (by omega)
      refine ⟨_, rfl, [.k 0], ?_, ⟨_, rfl, congrArg B.sc ?_⟩, trivial⟩
      · show V.o 1 (.k 0) 0 _ = V.o 1 (.k 0) 0 _
        rw [List.take_length]
      · rw [List.take_length, hz rfl, List.append_nil]
theorem c_concatB' {n : Nat} {ls : List (List UInt8)} {t : List UInt8} {xs : List V} (ht : ls.flatten = t) (hx : xs = ls.map fun l => bz l) (hn : ls.length = n) (h0 : 0 < t.length) (hm : t.length ≤ 1073741824) (hn2 : n ≤ 1073741824 := by first | decide | simp) : Con C N.slices_Concat_byte [.zz 1 n xs] [] (.ret (.o 1 (.k 0) 0 t.length)) [.sc (bv t)] := by
  subst ht
  exact c_concatB hx hn h0 hm hn2
def stir (v key : UInt32) : UInt32 := ((v <<< 4 ^^^ v >>> 5) + v) ^^^ key
def golden : UInt32 := 2654435769
def xEnc (k : List UInt32) (x : UInt32 × UInt32 × UInt32) : UInt32 × UInt32 × UInt32 :=
  let v := x.1 + stir x.2.1 (x.2.2 + k.getD (x.2.2 &&& 3).toNat 0)
  let s := x.2.2 + golden
  (v, x.2.1 + stir v (s + k.getD (s >>> 11 &&& 3).toNat 0), s)
def xDec (k : List UInt32) (x : UInt32 × UInt32 × UInt32) : UInt32 × UInt32 × UInt32 :=
  let w := x.2.1 - stir x.1 (x.2.2 + k.getD (x.2.2 >>> 11 &&& 3).toNat 0)
  let s := x.2.2 - golden
  (x.1 - stir w (s + k.getD (s &&& 3).toNat 0), w, s)
theorem and3_lt (x : UInt32) : (x &&& 3).toNat < 4 := by
  rw [UInt32.toNat_and]
  exact Nat.and_lt_two_pow (n := 2) _ (by decide)
theorem u32_and3 (s : UInt32) : IntKind.u32.wrap ((BitVec.ofInt IntKind.u32.bits (s.toNat : Int) &&& BitVec.ofInt IntKind.u32.bits 3).toNat : Int) = ((s &&& 3).toNat : Int) := u32_and s 3
theorem u32_gold (s : UInt32) : IntKind.u32.wrap ((s.toNat : Int) + 2654435769) = ((s + golden).toNat : Int) := u32_add s golden
theorem u32_goldS (s : UInt32) : IntKind.u32.wrap ((s.toNat : Int) - 2654435769) = ((s - golden).toNat : Int) := u32_sub s golden
theorem c_stir {x y : Int} {v k : UInt32} (hx : x = v.toNat) (hy : y = k.toNat) : Con C N.small_stir [vi .u32 x, vi .u32 y] [] (.ret (u32 (stir v k))) [] := by
  subst hx; subst hy
  refine con.small_stir ?_
  refine ⟨(by omega), (by omega), _, rfl, [], congrArg (vi .u32) ?_, trivial⟩
  rw [u32_shl _ _ (by decide) (by decide), u32_shr _ _ (by decide) (by decide), u32_xor, u32_add, u32_xor]
  rfl
abbrev smallV (k : List UInt32) (tag : Int) : V := .q [wz k, i64 tag] 0
theorem c_xtea_enc {tag x y : Int} {k : List UInt32} {v w : UInt32} (hk : k.length = 4) (hx : x = v.toNat) (hy : y = w.toNat) : Con C N.small_Small_xtea [smallV k tag, vi .u32 x, vi .u32 y, bool false] []
    (.ret (.t [u32 (it (xEnc k) 32 (v, w, 0)).1, u32 (it (xEnc k) 32 (v, w, 0)).2.1])) [] := by
  subst hx; subst hy
  refine con.small_Small_xtea ?_
  refine scopeIt 0 rfl (xEnc k) (v, w, 0) 32 (fun i z => ⟨[(0, smallV k tag), (1, u32 z.1), (2, u32 z.2.1), (3, bool false), (10, u32 z.2.2), (11, i64 i)], []⟩) ⟨[], (0, (v, w, 0)), ⟨Nat.zero_le _, rfl⟩, [], ⟨rfl, rfl, rfl, rfl, rfl, rfl, trivial⟩, trivial⟩ fun i z hi hz => ?_
  refine spl_eq (fun h => ?_) (fun h => ?_)
  · obtain rfl : i = 32 := (by omega)
    rw [← hz]
    exact ⟨_, rfl, [], rfl, trivial⟩
  · have hlt : i < 32 := (by omega)
    have e1 := u32_and3 z.2.2
    have b1 := and3_lt z.2.2
    refine ⟨_, rfl, ?_⟩
    refine ⟨by rw [e1]; omega, by rw [e1, hk]; omega, ?_⟩
    refine ⟨_, by rw [e1, Int.toNat_natCast]; exact wv_getD (i := (z.2.2 &&& 3).toNat) (by omega), ?_⟩
    refine ⟨[], _, _, _, _, c_stir rfl (by rw [u32_add]), rfl, rfl, ?_⟩
    have b2 := and3_lt ((z.2.2 + golden) >>> 11)
    have e2 : IntKind.u32.wrap ((BitVec.ofInt IntKind.u32.bits ((IntKind.u32.wrap ((z.2.2.toNat : Int) + 2654435769)).fdiv (2 ^ (min (11 : Int).toNat IntKind.u32.bits))) &&& BitVec.ofInt IntKind.u32.bits 3).toNat : Int) = (((z.2.2 + golden) >>> 11 &&& 3).toNat : Int) := by
      rw [u32_gold, u32_shr _ _ (by decide) (by decide)]; exact u32_and3 _
    refine ⟨_, rfl, (by omega), ?_⟩
    refine ⟨by rw [e2]; omega, by rw [e2, hk]; omega, ?_⟩
    refine ⟨_, by rw [e2, Int.toNat_natCast]; exact wv_getD (i := ((z.2.2 + golden) >>> 11 &&& 3).toNat) (by omega), ?_⟩
    refine ⟨[], _, _, _, _, c_stir (u32_add _ _) (by rw [u32_gold, u32_add]), rfl, rfl, ?_⟩
    refine ⟨rfl, (i + 1, xEnc k z), ⟨hlt, it_next hz⟩, (by omega), [], ⟨rfl, congrArg (vi .u32) (u32_add _ _), congrArg (vi .u32) (u32_add _ _), rfl, congrArg (vi .u32) (u32_gold _), congrArg (vi .i64) (by first | rfl | (simp only [IntKind.wrap_i64]; omega) | (simp only [IntKind.wrap_i64, storeL_len, bv_len, iv_len, wv_len, List.length_append, List.length_replicate, List.length_set, List.length_take, List.length_drop, List.length_cons, List.length_nil, sub_length, List.length_reverse, List.length_map, List.length_zipWith]; omega)), trivial⟩, trivial⟩
theorem c_xtea_dec {tag x y : Int} {k : List UInt32} {v w : UInt32} (hk : k.length = 4) (hx : x = v.toNat) (hy : y = w.toNat) : Con C N.small_Small_xtea [smallV k tag, vi .u32 x, vi .u32 y, bool true] []
    (.ret (.t [u32 (it (xDec k) 32 (v, w, 3337565984)).1, u32 (it (xDec k) 32 (v, w, 3337565984)).2.1])) [] := by
  subst hx; subst hy
  refine con.small_Small_xtea ?_
  refine scopeIt 0 rfl (xDec k) (v, w, 3337565984) 32 (fun i z => ⟨[(0, smallV k tag), (1, u32 z.1), (2, u32 z.2.1), (3, bool true), (10, u32 z.2.2), (11, i64 i)], []⟩) ⟨[], (0, (v, w, 3337565984)), ⟨Nat.zero_le _, rfl⟩, [], ⟨rfl, rfl, rfl, rfl, rfl, rfl, trivial⟩, trivial⟩ fun i z hi hz => ?_
  refine spl_eq (fun h => ?_) (fun h => ?_)
  · obtain rfl : i = 32 := (by omega)
    rw [← hz]
    exact ⟨_, rfl, [], rfl, trivial⟩
  · have hlt : i < 32 := (by omega)
    have b1 := and3_lt (z.2.2 >>> 11)
    have e1 : IntKind.u32.wrap ((BitVec.ofInt IntKind.u32.bits ((z.2.2.toNat : Int).fdiv (2 ^ (min (11 : Int).toNat IntKind.u32.bits))) &&& BitVec.ofInt IntKind.u32.bits 3).toNat : Int) = ((z.2.2 >>> 11 &&& 3).toNat : Int) := by
      rw [u32_shr _ _ (by decide) (by decide)]; exact u32_and3 _
    refine ⟨_, rfl, (by omega), ?_⟩
    refine ⟨by rw [e1]; omega, by rw [e1, hk]; omega, ?_⟩
    refine ⟨_, by rw [e1, Int.toNat_natCast]; exact wv_getD (i := (z.2.2 >>> 11 &&& 3).toNat) (by omega), ?_⟩
    refine ⟨[], _, _, _, _, c_stir rfl (by rw [u32_add]), rfl, rfl, ?_⟩
    have b2 := and3_lt (z.2.2 - golden)
    have e2 : IntKind.u32.wrap ((BitVec.ofInt IntKind.u32.bits (IntKind.u32.wrap ((z.2.2.toNat : Int) - 2654435769)) &&& BitVec.ofInt IntKind.u32.bits 3).toNat : Int) = (((z.2.2 - golden) &&& 3).toNat : Int) := by
      rw [u32_goldS]; exact u32_and3 _
    refine ⟨_, rfl, ?_⟩
    refine ⟨by rw [e2]; omega, by rw [e2, hk]; omega, ?_⟩
    refine ⟨_, by rw [e2, Int.toNat_natCast]; exact wv_getD (i := ((z.2.2 - golden) &&& 3).toNat) (by omega), ?_⟩
    refine ⟨[], _, _, _, _, c_stir (u32_sub _ _) (by rw [u32_goldS, u32_add]), rfl, rfl, ?_⟩
    refine ⟨rfl, (i + 1, xDec k z), ⟨hlt, it_next hz⟩, (by omega), [], ⟨rfl, congrArg (vi .u32) (u32_sub _ _), congrArg (vi .u32) (u32_sub _ _), rfl, congrArg (vi .u32) (u32_goldS _), congrArg (vi .i64) (by first | rfl | (simp only [IntKind.wrap_i64]; omega) | (simp only [IntKind.wrap_i64, storeL_len, bv_len, iv_len, wv_len, List.length_append, List.length_replicate, List.length_set, List.length_take, List.length_drop, List.length_cons, List.length_nil, sub_length, List.length_reverse, List.length_map, List.length_zipWith]; omega)), trivial⟩, trivial⟩
abbrev str (l : List UInt8) : V := .s (.string ⟨l.toArray⟩)
def beW (l : List UInt8) : UInt32 := (loadL l).toUInt32
def wrds (f : List UInt8 → UInt32) (b : List UInt8) (k : Nat) : List UInt32 := (List.range k).map fun i => f (sub b (4 * i) 4)
theorem wrds_len (f b k) : (wrds f b k).length = k := by simp [wrds]
theorem wrds_succ (f b k) : wrds f b (k + 1) = wrds f b k ++ [f (sub b (4 * k) 4)] := by simp [wrds, List.range_succ]
theorem sub_drop {α : Type} (l : List α) (a i n : Nat) : sub (l.drop a) i n = sub l (a + i) n := by simp [sub]
theorem wv_one (x : UInt32) : [Value.int .u32 x.toNat] = wv [x] := rfl
theorem sub_end {α : Type} (l : List α) (i n : Nat) (h : n = l.length - i) : sub l i n = l.drop i := by subst h; simp [sub, List.take_of_length_le]
theorem wv_app1 {l : List UInt32} {n : Nat} {x : UInt32} (h : l.length = n) : sub (wv l) 0 n ++ [Value.int .u32 x.toNat] = wv (l ++ [x]) := by
  rw [wv_all h, wv_one, wv_app]
theorem c_loaded_be {n m : Nat} {va : List Value} {b : List UInt8} (ha : va = bv b) (hn : b.length = n) (h4 : n = 4 * m) (h0 : 0 < m) (hm : n ≤ 1073741824) : Con C N.small_loaded [.z n va, bool false] [] (.ret (.o 1 (.k 0) 0 m)) [.sc (wv (wrds beW b m))] := by
  subst ha; subst h4
  refine con.small_loaded ?_
  refine loopNn (fun i => ⟨[(0, .z (4 * (m - i)) (bv (b.drop (4 * i)))), (1, bool false), (5, .o 1 (.k 0) 0 i)], [.sc (wv (wrds beW b i))]⟩) m [(5, 1, .sc [])] ⟨[.d 900000 0], ⟨rfl, rfl, rfl, trivial⟩, ⟨_, rfl, rfl⟩, trivial⟩ fun i hi => ?_
  refine spl_d (fun h => ?_) (fun h => ?_)
  · have hlt : i < m := (by omega)
    refine ⟨(by omega), (by omega), (by omega), (by omega), (by omega), ?_⟩
    have e : sub (bv (b.drop (4 * i))) 0 4 = bv (sub b (4 * i) 4) := by rw [bv_sub, sub_drop]; rfl
    have el : (sub b (4 * i) 4).length = 4 := by rw [sub_length]; omega
    refine ⟨[], _, _, _, _, c_be32 e el rfl, rfl, rfl, ?_⟩
    refine ⟨Nat.le_refl _, (by first | omega | (simp only [storeL_len, bv_len, iv_len, wv_len, List.length_append, List.length_replicate, List.length_set, List.length_take, List.length_drop, List.length_cons, List.length_nil, sub_length, List.length_reverse, List.length_map, List.length_zipWith]; omega) | (dsimp only; omega) | (dsimp only; simp only [IntKind.wrap_i64, storeL_len, bv_len, iv_len, wv_len, List.length_append, List.length_replicate, List.length_set, List.length_take, List.length_drop, List.length_cons, List.length_nil, sub_length, List.length_reverse, List.length_map, List.length_zipWith]; omega) | (simp only [IntKind.wrap_i64, storeL_len, bv_len, iv_len, wv_len, List.length_append, List.length_replicate, List.length_set, List.length_take, List.length_drop, List.length_cons, List.length_nil, sub_length, List.length_reverse, List.length_map, List.length_zipWith]; omega) | decide | (simp [storeL_len, bv_len, iv_len, wv_len, List.length_append, List.length_replicate, List.length_set, List.length_take, List.length_drop, List.length_cons, List.length_nil, sub_length, List.length_reverse, List.length_map, List.length_zipWith]; done) | (simp [storeL_len, bv_len, iv_len, wv_len, List.length_append, List.length_replicate, List.length_set, List.length_take, List.length_drop, List.length_cons, List.length_nil, sub_length, List.length_reverse, List.length_map, List.length_zipWith]; omega)), by rw [wv_len, wrds_len]; omega, ?_⟩
    refine ⟨(by first | omega | (simp only [storeL_len, bv_len, iv_len, wv_len, List.length_append, List.length_replicate, List.length_set, List.length_take, List.length_drop, List.length_cons, List.length_nil, sub_length, List.length_reverse, List.length_map, List.length_zipWith]; omega) | (dsimp only; omega) | (dsimp only; simp only [IntKind.wrap_i64, storeL_len, bv_len, iv_len, wv_len, List.length_append, List.length_replicate, List.length_set, List.length_take, List.length_drop, List.length_cons, List.length_nil, sub_length, List.length_reverse, List.length_map, List.length_zipWith]; omega) | (simp only [IntKind.wrap_i64, storeL_len, bv_len, iv_len, wv_len, List.length_append, List.length_replicate, List.length_set, List.length_take, List.length_drop, List.length_cons, List.length_nil, sub_length, List.length_reverse, List.length_map, List.length_zipWith]; omega) | decide | (simp [storeL_len, bv_len, iv_len, wv_len, List.length_append, List.length_replicate, List.length_set, List.length_take, List.length_drop, List.length_cons, List.length_nil, sub_length, List.length_reverse, List.length_map, List.length_zipWith]; done) | (simp [storeL_len, bv_len, iv_len, wv_len, List.length_append, List.length_replicate, List.length_set, List.length_take, List.length_drop, List.length_cons, List.length_nil, sub_length, List.length_reverse, List.length_map, List.length_zipWith]; omega)), (by first | omega | (simp only [storeL_len, bv_len, iv_len, wv_len, List.length_append, List.length_replicate, List.length_set, List.length_take, List.length_drop, List.length_cons, List.length_nil, sub_length, List.length_reverse, List.length_map, List.length_zipWith]; omega) | (dsimp only; omega) | (dsimp only; simp only [IntKind.wrap_i64, storeL_len, bv_len, iv_len, wv_len, List.length_append, List.length_replicate, List.length_set, List.length_take, List.length_drop, List.length_cons, List.length_nil, sub_length, List.length_reverse, List.length_map, List.length_zipWith]; omega) | (simp only [IntKind.wrap_i64, storeL_len, bv_len, iv_len, wv_len, List.length_append, List.length_replicate, List.length_set, List.length_take, List.length_drop, List.length_cons, List.length_nil, sub_length, List.length_reverse, List.length_map, List.length_zipWith]; omega) | decide | (simp [storeL_len, bv_len, iv_len, wv_len, List.length_append, List.length_replicate, List.length_set, List.length_take, List.length_drop, List.length_cons, List.length_nil, sub_length, List.length_reverse, List.length_map, List.length_zipWith]; done) | (simp [storeL_len, bv_len, iv_len, wv_len, List.length_append, List.length_replicate, List.length_set, List.length_take, List.length_drop, List.length_cons, List.length_nil, sub_length, List.length_reverse, List.length_map, List.length_zipWith]; omega)), (by first | omega | (simp only [storeL_len, bv_len, iv_len, wv_len, List.length_append, List.length_replicate, List.length_set, List.length_take, List.length_drop, List.length_cons, List.length_nil, sub_length, List.length_reverse, List.length_map, List.length_zipWith]; omega) | (dsimp only; omega) | (dsimp only; simp only [IntKind.wrap_i64, storeL_len, bv_len, iv_len, wv_len, List.length_append, List.length_replicate, List.length_set, List.length_take, List.length_drop, List.length_cons, List.length_nil, sub_length, List.length_reverse, List.length_map, List.length_zipWith]; omega) | (simp only [IntKind.wrap_i64, storeL_len, bv_len, iv_len, wv_len, List.length_append, List.length_replicate, List.length_set, List.length_take, List.length_drop, List.length_cons, List.length_nil, sub_length, List.length_reverse, List.length_map, List.length_zipWith]; omega) | decide | (simp [storeL_len, bv_len, iv_len, wv_len, List.length_append, List.length_replicate, List.length_set, List.length_take, List.length_drop, List.length_cons, List.length_nil, sub_length, List.length_reverse, List.length_map, List.length_zipWith]; done) | (simp [storeL_len, bv_len, iv_len, wv_len, List.length_append, List.length_replicate, List.length_set, List.length_take, List.length_drop, List.length_cons, List.length_nil, sub_length, List.length_reverse, List.length_map, List.length_zipWith]; omega)), (by first | omega | (simp only [storeL_len, bv_len, iv_len, wv_len, List.length_append, List.length_replicate, List.length_set, List.length_take, List.length_drop, List.length_cons, List.length_nil, sub_length, List.length_reverse, List.length_map, List.length_zipWith]; omega) | (dsimp only; omega) | (dsimp only; simp only [IntKind.wrap_i64, storeL_len, bv_len, iv_len, wv_len, List.length_append, List.length_replicate, List.length_set, List.length_take, List.length_drop, List.length_cons, List.length_nil, sub_length, List.length_reverse, List.length_map, List.length_zipWith]; omega) | (simp only [IntKind.wrap_i64, storeL_len, bv_len, iv_len, wv_len, List.length_append, List.length_replicate, List.length_set, List.length_take, List.length_drop, List.length_cons, List.length_nil, sub_length, List.length_reverse, List.length_map, List.length_zipWith]; omega) | decide | (simp [storeL_len, bv_len, iv_len, wv_len, List.length_append, List.length_replicate, List.length_set, List.length_take, List.length_drop, List.length_cons, List.length_nil, sub_length, List.length_reverse, List.length_map, List.length_zipWith]; done) | (simp [storeL_len, bv_len, iv_len, wv_len, List.length_append, List.length_replicate, List.length_set, List.length_take, List.length_drop, List.length_cons, List.length_nil, sub_length, List.length_reverse, List.length_map, List.length_zipWith]; omega)), ?_⟩
    refine ⟨i + 1, (by omega), (by omega), [.d 29 0], ⟨?_, rfl, rfl, trivial⟩, ⟨_, rfl, congrArg B.sc ?_⟩, trivial⟩
    · show V.z (4 * (m - i) - 4) (sub _ 4 (4 * (m - i) - 4)) = _
      rw [bv_sub, sub_drop, sub_end _ _ _ (by omega)]
      rw [show 4 * (m - i) - 4 = 4 * (m - (i + 1)) by omega, show 4 * i + 4 = 4 * (i + 1) by omega]
    · rw [wrds_succ]; exact wv_app1 (by rw [wrds_len]; omega)
  · obtain rfl : i = m := (by omega)
    exact ⟨_, rfl, [.k 0], rfl, ⟨_, rfl, rfl⟩, trivial⟩
abbrev W2 := UInt32 × UInt32
def putB (v : UInt32) : List UInt8 := storeL v.toUInt64 4
theorem putB_len (v) : (putB v).length = 4 := storeL_len _ _
abbrev nilv : V := .s (.slice none 0 0)
abbrev okBlk (n : Nat) : Oc := .ret (.t [.o 1 (.k 0) 0 n, i64 0])
theorem c_stored_f {x y : Int} {v w : UInt32} (hx : x = v.toNat) (hy : y = w.toNat) : Con C N.small_stored [vi .u32 x, vi .u32 y, bool false] [] (.ret (.o 1 (.k 0) 0 8)) [.sc (bv (putB v ++ putB w))] := by
  subst hx; subst hy
  refine con.small_stored ?_
  refine ⟨[], _, _, _, _, c_putBe32 rfl, rfl, rfl, ?_⟩
  refine ⟨[], _, _, _, _, c_putBe32 rfl, rfl, rfl, ?_⟩
  refine ⟨[], _, _, _, _, c_concatB' (ls := [putB v, putB w]) (t := putB v ++ putB w) (by simp) ?_ rfl (by simp [putB_len]) (by simp [putB_len]), rfl, rfl, ?_⟩
  · show [V.z _ _, V.z _ _] = _
    rw [bv_all (storeL_len _ _), bv_all (storeL_len _ _)]
    simp [putB, storeL_len]
  refine ⟨_, rfl, [.d 19 0], ?_, ⟨_, rfl, rfl⟩, trivial⟩
  show V.o 1 (.k 0) 0 _ = _
  rw [List.length_append, putB_len, putB_len]
theorem c_blk_x {va : List Value} {k : List UInt32} {b : List UInt8} {back : Bool} {r : W2} (ha : va = bv b) (hb : b.length = 8) (hf : Con C N.small_Small_xtea [smallV k 4, u32 (beW (sub b 0 4)), u32 (beW (sub b 4 4)), bool back] [] (.ret (.t [u32 r.1, u32 r.2])) []) : Con C N.small_Small_Block [smallV k 4, .z 8 va, bool back] [] (okBlk 8) [.sc (bv (putB r.1 ++ putB r.2))] := by
  refine con.small_Small_Block ?_
  refine ⟨_, rfl, ?_⟩
  refine ⟨[], _, _, _, _, c_loaded_be (m := 2) ha hb rfl (by decide) (by decide), rfl, rfl, ?_⟩
  refine ⟨by decide, by decide, _, rfl, by decide, by decide, _, rfl, _, rfl, ?_⟩
  refine ⟨[], _, _, _, _, hf, rfl, rfl, ?_⟩
  refine ⟨[], _, _, _, _, c_stored_f rfl rfl, rfl, rfl, ?_⟩
  exact ⟨_, rfl, [.d 66 0], rfl, ⟨_, rfl, rfl⟩, trivial⟩
theorem c_small_new_x {va : List Value} {key : List UInt8} (ha : va = bv key) (hk : key.length = 16) : Con C N.small_New [i64 4, .z 16 va] [] (.ret (.t [smallV (wrds beW key 4) 4, i64 0])) [] := by
  refine con.small_New ?_
  refine ⟨[], _, _, _, _, c_loaded_be (m := 4) ha hk rfl (by decide) (by decide), rfl, rfl, ?_⟩
  refine ⟨_, rfl, [], ?_, trivial⟩
  show V.t [.q [.z 4 (sub _ 0 4), i64 4] 0, i64 0] = V.t [.q [.z _ _, i64 4] 0, i64 0]
  rw [wv_all (wrds_len _ _ _), wrds_len]
def cSize (t : Int) : Int := if t = 1 ∨ t = 2 ∨ t = 3 ∨ t = 4 ∨ t = 5 ∨ t = 8 then 8 else if t = 6 ∨ t = 7 then 16 else 0
def cLens (t : Int) : List Int := if t = 1 then [8] else if t = 2 then [16, 24] else if t = 3 ∨ t = 4 ∨ t = 8 then [16] else if t = 5 then [32] else if t = 6 ∨ t = 7 then [16, 24, 32] else []
def okTag (t : Int) : Prop := t = 1 ∨ t = 2 ∨ t = 3 ∨ t = 4 ∨ t = 5 ∨ t = 6 ∨ t = 7 ∨ t = 8
theorem c_size {t : Int} (h : okTag t) : Con C N.cipher_Size [i64 t] [] (.ret (i64 (cSize t))) [] := by
  rcases h with rfl | rfl | rfl | rfl | rfl | rfl | rfl | rfl <;> exact con.cipher_Size ⟨_, rfl, [], rfl, trivial⟩
theorem cSize_no {t : Int} (h : ¬ okTag t) : cSize t = 0 := by unfold okTag at h; unfold cSize; rw [if_neg (by omega), if_neg (by omega)]
theorem cLens_no {t : Int} (h : ¬ okTag t) : cLens t = [] := by unfold okTag at h; unfold cLens; rw [if_neg (by omega), if_neg (by omega), if_neg (by omega), if_neg (by omega), if_neg (by omega)]
theorem c_size_no {t : Int} (h : ¬ okTag t) : Con C N.cipher_Size [i64 t] [] (.ret (i64 0)) [] := by
  unfold okTag at h
  refine con.cipher_Size ?_
  refine spl_f (by simp only [beq_eq_false_iff_ne, ne_eq]; omega) (spl_f (by simp only [beq_eq_false_iff_ne, ne_eq]; omega) (spl_f (by simp only [beq_eq_false_iff_ne, ne_eq]; omega) (spl_f (by simp only [beq_eq_false_iff_ne, ne_eq]; omega) (spl_f (by simp only [beq_eq_false_iff_ne, ne_eq]; omega) (spl_f (by simp only [beq_eq_false_iff_ne, ne_eq]; omega) (spl_f (by simp only [beq_eq_false_iff_ne, ne_eq]; omega) (spl_f (by simp only [beq_eq_false_iff_ne, ne_eq]; omega) ?_)))))))
  exact ⟨_, rfl, [], rfl, trivial⟩
theorem c_lens {t : Int} (h : okTag t) : Con C N.cipher_Lengths [i64 t] [] (.ret (.o 1 (.k 0) 0 (cLens t).length)) [.sc (iv (cLens t))] := by
  rcases h with rfl | rfl | rfl | rfl | rfl | rfl | rfl | rfl
  · exact con.cipher_Lengths ⟨_, rfl, [.d 6 0], rfl, ⟨_, rfl, rfl⟩, trivial⟩
  · exact con.cipher_Lengths ⟨_, rfl, [.d 9 0], rfl, ⟨_, rfl, rfl⟩, trivial⟩
  · exact con.cipher_Lengths ⟨_, rfl, [.d 14 0], rfl, ⟨_, rfl, rfl⟩, trivial⟩
  · exact con.cipher_Lengths ⟨_, rfl, [.d 14 0], rfl, ⟨_, rfl, rfl⟩, trivial⟩
  · exact con.cipher_Lengths ⟨_, rfl, [.d 17 0], rfl, ⟨_, rfl, rfl⟩, trivial⟩
  · exact con.cipher_Lengths ⟨_, rfl, [.d 21 0], rfl, ⟨_, rfl, rfl⟩, trivial⟩
  · exact con.cipher_Lengths ⟨_, rfl, [.d 21 0], rfl, ⟨_, rfl, rfl⟩, trivial⟩
  · exact con.cipher_Lengths ⟨_, rfl, [.d 14 0], rfl, ⟨_, rfl, rfl⟩, trivial⟩
theorem c_lens_no {t : Int} (h : ¬ okTag t) : Con C N.cipher_Lengths [i64 t] [] (.ret nilv) [] := by
  unfold okTag at h
  refine con.cipher_Lengths ?_
  refine spl_f (by simp only [beq_eq_false_iff_ne, ne_eq]; omega) (spl_f (by simp only [beq_eq_false_iff_ne, ne_eq]; omega) (spl_f (by simp only [beq_eq_false_iff_ne, ne_eq]; omega) (spl_f (by simp only [beq_eq_false_iff_ne, ne_eq]; omega) (spl_f (by simp only [beq_eq_false_iff_ne, ne_eq]; omega) (spl_f (by simp only [beq_eq_false_iff_ne, ne_eq]; omega) (spl_f (by simp only [beq_eq_false_iff_ne, ne_eq]; omega) (spl_f (by simp only [beq_eq_false_iff_ne, ne_eq]; omega) ?_)))))))
  exact ⟨_, rfl, [], rfl, trivial⟩
def fidx (x : Int) : List Int → Nat
  | [] => 0
  | y :: r => if y = x then 0 else fidx x r + 1
theorem fidx_at {x : Int} : ∀ {l : List Int} {i : Nat}, x ∉ l.take i → l[i]? = some x → fidx x l = i
  | [], i, _, h => by simp at h
  | y :: r, 0, _, h => by simp at h; simp [fidx, h]
  | y :: r, i + 1, hn, h => by
    simp at hn h
    have h1 : ¬ y = x := fun e => hn.1 e.symm
    simp only [fidx, if_neg h1]
    rw [fidx_at (i := i) hn.2 h]
def gidx (x : Int) (l : List Int) : Int := if x ∈ l then fidx x l else -1
theorem c_index {n : Nat} {va : List Value} {l : List Int} {x : Int} (ha : va = iv l) (hn : l.length = n) (hm : n ≤ 1073741824) : Con C N.slices_Index_int [.z n va, i64 x] [] (.ret (i64 (gidx x l))) [] := by
  subst ha; subst hn
  refine con.slices_Index_int ?_
  refine ⟨Nat, fun i => ⟨[(0, iz l), (1, i64 x), (7, i64 l.length), (8, i64 i)], []⟩, fun i => i ≤ l.length ∧ x ∉ l.take i, fun i => l.length - i, ⟨[], 0, ⟨Nat.zero_le _, by simp⟩, [], ⟨rfl, rfl, rfl, rfl, trivial⟩, trivial⟩, fun i hi => ?_⟩
  obtain ⟨hi, hx⟩ := hi
  refine spl_d (fun h => ?_) (fun h => ?_)
  · have hlt : i < l.length := (by omega)
    refine ⟨(by omega), (by omega), ?_⟩
    refine ⟨_, by rw [Int.toNat_natCast]; exact iv_get hlt, ?_⟩
    refine spl_eq (fun h => ?_) (fun h => ?_)
    · refine ⟨_, rfl, [], congrArg (vi .i64) ?_, trivial⟩
      have h1 : x ∈ l := by rw [h]; exact List.getElem_mem hlt
      rw [gidx, if_pos h1, fidx_at hx (by rw [List.getElem?_eq_getElem hlt, h])]
    · refine ⟨i + 1, ⟨(by omega), ?_⟩, (by first | omega | (simp only [storeL_len, bv_len, iv_len, wv_len, List.length_append, List.length_replicate, List.length_set, List.length_take, List.length_drop, List.length_cons, List.length_nil, sub_length, List.length_reverse, List.length_map, List.length_zipWith]; omega) | (dsimp only; omega) | (dsimp only; simp only [IntKind.wrap_i64, storeL_len, bv_len, iv_len, wv_len, List.length_append, List.length_replicate, List.length_set, List.length_take, List.length_drop, List.length_cons, List.length_nil, sub_length, List.length_reverse, List.length_map, List.length_zipWith]; omega) | (simp only [IntKind.wrap_i64, storeL_len, bv_len, iv_len, wv_len, List.length_append, List.length_replicate, List.length_set, List.length_take, List.length_drop, List.length_cons, List.length_nil, sub_length, List.length_reverse, List.length_map, List.length_zipWith]; omega) | decide | (simp [storeL_len, bv_len, iv_len, wv_len, List.length_append, List.length_replicate, List.length_set, List.length_take, List.length_drop, List.length_cons, List.length_nil, sub_length, List.length_reverse, List.length_map, List.length_zipWith]; done) | (simp [storeL_len, bv_len, iv_len, wv_len, List.length_append, List.length_replicate, List.length_set, List.length_take, List.length_drop, List.length_cons, List.length_nil, sub_length, List.length_reverse, List.length_map, List.length_zipWith]; omega)), [], ⟨rfl, rfl, rfl, congrArg (vi .i64) (by first | rfl | (simp only [IntKind.wrap_i64]; omega) | (simp only [IntKind.wrap_i64, storeL_len, bv_len, iv_len, wv_len, List.length_append, List.length_replicate, List.length_set, List.length_take, List.length_drop, List.length_cons, List.length_nil, sub_length, List.length_reverse, List.length_map, List.length_zipWith]; omega)), trivial⟩, trivial⟩
      rw [List.take_succ_eq_append_getElem hlt]
      simp only [List.mem_append, List.mem_singleton, not_or]
      exact ⟨hx, h⟩
  · obtain rfl : i = l.length := (by omega)
    refine ⟨_, rfl, [], congrArg (vi .i64) ?_, trivial⟩
    rw [List.take_length] at hx
    rw [gidx, if_neg hx]
theorem c_contains {n : Nat} {va : List Value} {l : List Int} {x : Int} (ha : va = iv l) (hn : l.length = n) (hm : n ≤ 1073741824) : Con C N.slices_Contains_int [.z n va, i64 x] [] (.ret (bool (decide (x ∈ l)))) [] := by
  refine con.slices_Contains_int ?_
  refine ⟨[], _, _, _, _, c_index ha hn hm, rfl, rfl, ?_⟩
  refine ⟨_, rfl, [], congrArg bool ?_, trivial⟩
  unfold gidx
  by_cases h : x ∈ l
  · rw [if_pos h, decide_eq_true h]; exact decide_eq_true (Int.natCast_nonneg _)
  · rw [if_neg h, decide_eq_false h]; rfl
abbrev cipV (t : Int) (k : Nat) (xs : List V) : V := .q [i64 t, .f (.func k) [.q xs 0] []] 0
theorem cLens_len (t) : (cLens t).length ≤ 3 := by
  unfold cLens
  repeat' split
  all_goals simp
theorem c_new_small {t : Int} {n : Nat} {va : List Value} {xs : List V} (ht : t = 4 ∨ t = 5 ∨ t = 8) (hv : (n : Int) ∈ cLens t) (hm : n ≤ 1000) (hs : Con C N.small_New [i64 t, .z n va] [] (.ret (.t [.q xs 0, i64 0])) []) :
    Con C N.cipher_New [i64 t, .z n va] [] (.ret (.t [cipV t N.small_Small_Block xs, i64 0])) [] := by
  refine con.cipher_New ?_
  have hl := cLens_len t
  rcases ht with rfl | rfl | rfl
  · refine ⟨0, Unit, (fun _ => ⟨[(6, .p (.k 0) 0), (7, i64 0)], [.mx [i64 4, .f (.func N.small_Small_Block) [.q xs 0] []]]⟩), fun _ => True, fun _ => 0, ?_, fun _ h => ?_⟩
    · refine ⟨[], _, _, _, _, c_size (by simp [okTag]), rfl, rfl, ?_⟩
      refine ⟨[], _, _, _, _, c_lens (by simp [okTag]), rfl, rfl, ?_⟩
      refine ⟨[], _, _, _, _, c_contains (x := n) (iv_all rfl) rfl (by omega), rfl, rfl, ?_⟩
      refine spl_f (by rw [decide_eq_true hv]; rfl) ?_
      refine ⟨[], _, _, _, _, hs, rfl, rfl, ?_⟩
      refine ⟨Nat.le_refl _, ?_⟩
      exact ⟨[], (), trivial, [.d 20 0], ⟨rfl, rfl, trivial⟩, ⟨_, rfl, rfl⟩, trivial⟩
    · exact ⟨_, rfl, [], rfl, trivial⟩
  · refine ⟨0, Unit, (fun _ => ⟨[(6, .p (.k 0) 0), (7, i64 0)], [.mx [i64 5, .f (.func N.small_Small_Block) [.q xs 0] []]]⟩), fun _ => True, fun _ => 0, ?_, fun _ h => ?_⟩
    · refine ⟨[], _, _, _, _, c_size (by simp [okTag]), rfl, rfl, ?_⟩
      refine ⟨[], _, _, _, _, c_lens (by simp [okTag]), rfl, rfl, ?_⟩
      refine ⟨[], _, _, _, _, c_contains (x := n) (iv_all rfl) rfl (by omega), rfl, rfl, ?_⟩
      refine spl_f (by rw [decide_eq_true hv]; rfl) ?_
      refine ⟨[], _, _, _, _, hs, rfl, rfl, ?_⟩
      refine ⟨Nat.le_refl _, ?_⟩
      exact ⟨[], (), trivial, [.d 20 0], ⟨rfl, rfl, trivial⟩, ⟨_, rfl, rfl⟩, trivial⟩
    · exact ⟨_, rfl, [], rfl, trivial⟩
  · refine ⟨0, Unit, (fun _ => ⟨[(6, .p (.k 0) 0), (7, i64 0)], [.mx [i64 8, .f (.func N.small_Small_Block) [.q xs 0] []]]⟩), fun _ => True, fun _ => 0, ?_, fun _ h => ?_⟩
    · refine ⟨[], _, _, _, _, c_size (by simp [okTag]), rfl, rfl, ?_⟩
      refine ⟨[], _, _, _, _, c_lens (by simp [okTag]), rfl, rfl, ?_⟩
      refine ⟨[], _, _, _, _, c_contains (x := n) (iv_all rfl) rfl (by omega), rfl, rfl, ?_⟩
      refine spl_f (by rw [decide_eq_true hv]; rfl) ?_
      refine ⟨[], _, _, _, _, hs, rfl, rfl, ?_⟩
      refine ⟨Nat.le_refl _, ?_⟩
      exact ⟨[], (), trivial, [.d 20 0], ⟨rfl, rfl, trivial⟩, ⟨_, rfl, rfl⟩, trivial⟩
    · exact ⟨_, rfl, [], rfl, trivial⟩
theorem c_enc_ok {t : Int} {k n : Nat} {xs : List V} {va : List Value} {l : List Value} (h : Con C k [.q xs 0, .z n va, bool false] [] (okBlk n) [.sc l]) : Con C N.cipher_Cipher_Enc [cipV t k xs, .z n va] [] (okBlk n) [.sc l] := by
  refine con.cipher_Cipher_Enc ?_
  refine ⟨_, rfl, ?_⟩
  refine ⟨[], _, _, _, _, h, rfl, rfl, ?_⟩
  exact ⟨_, rfl, [.d 11 0], rfl, ⟨_, rfl, rfl⟩, trivial⟩
theorem c_dec_ok {t : Int} {k n : Nat} {xs : List V} {va : List Value} {l : List Value} (h : Con C k [.q xs 0, .z n va, bool true] [] (okBlk n) [.sc l]) : Con C N.cipher_Cipher_Dec [cipV t k xs, .z n va] [] (okBlk n) [.sc l] := by
  refine con.cipher_Cipher_Dec ?_
  refine ⟨_, rfl, ?_⟩
  refine ⟨[], _, _, _, _, h, rfl, rfl, ?_⟩
  exact ⟨_, rfl, [.d 11 0], rfl, ⟨_, rfl, rfl⟩, trivial⟩
theorem c_csize {t : Int} {k : Nat} {xs : List V} (ht : okTag t) : Con C N.cipher_Cipher_Size [cipV t k xs] [] (.ret (i64 (cSize t))) [] := by
  refine con.cipher_Cipher_Size ?_
  refine ⟨_, rfl, ?_⟩
  refine ⟨[], _, _, _, _, c_size ht, rfl, rfl, ?_⟩
  exact ⟨_, rfl, [], rfl, trivial⟩
theorem c_within {a n : Int} (hn : 0 < n) (hn2 : n ≤ 4611686018427387904) (ha : -9223372036854775808 ≤ a ∧ a ≤ 9223372036854775807) : Con C N.law11_within [i64 a, i64 n] [] (.ret (i64 (a % n))) [] := by
  refine con.law11_within ?_
  have h1 : -n < a.tmod n := Int.lt_tmod_of_pos a hn
  have h2 : a.tmod n < n := Int.tmod_lt_of_pos a hn
  refine ⟨by omega, ?_⟩
  refine spl_d (fun h => ?_) (fun h => ?_)
  · refine ⟨_, rfl, [], congrArg (vi .i64) ?_, trivial⟩
    rw [IntWalk.i64_in _ (by omega)]
    rw [← rest_eq a n hn, Int.tmod_eq_emod_of_nonneg (a := a.tmod n + n) (by omega), Int.emod_eq_of_lt (by omega) (by omega)]
  · refine ⟨_, rfl, [], congrArg (vi .i64) ?_, trivial⟩
    rw [← rest_eq a n hn, Int.tmod_eq_emod_of_nonneg (a := a.tmod n + n) (by omega), Int.add_emod_right, Int.emod_eq_of_lt (by omega) (by omega)]
theorem ba_loop (bs : ByteArray) : ∀ (n i : Nat) (r : List UInt8), bs.size - i = n → ByteArray.toList.loop bs i r = r.reverse ++ bs.data.toList.drop i := by
  intro n
  induction n with
  | zero =>
    intro i r h
    rw [ByteArray.toList.loop, if_neg (by omega)]
    have : bs.data.toList.length = bs.size := by cases bs; rfl
    rw [List.drop_eq_nil_of_le (by omega), List.append_nil]
  | succ n ih =>
    intro i r h
    rw [ByteArray.toList.loop, if_pos (by omega), ih (i + 1) _ (by omega)]
    have hl : bs.data.toList.length = bs.size := by cases bs; rfl
    rw [List.drop_eq_getElem_cons (i := i) (by omega)]
    have : bs.get! i = bs.data.toList[i]'(by omega) := by
      cases bs with
      | mk d =>
        show d[i]! = _
        have : i < d.size := by have : d.toList.length = d.size := by simp
                                have e : (ByteArray.mk d).size = d.size := rfl
                                omega
        rw [getElem!_pos d i this]; simp
    rw [this, List.reverse_cons, List.append_assoc]
    rfl
theorem ba_toList (bs : ByteArray) : bs.toList = bs.data.toList := by
  have := ba_loop bs _ 0 [] rfl
  show ByteArray.toList.loop bs 0 [] = _
  simpa using this
abbrev bs (l : List UInt8) : ByteArray := ⟨l.toArray⟩
theorem bs_toList (l : List UInt8) : (bs l).toList = l := by rw [ba_toList]
theorem str_beq (a b : List UInt8) : ((bs a).toList == (bs b).toList) = decide (a = b) := by
  rw [bs_toList, bs_toList]
  by_cases h : a = b
  · simp [h]
  · simp [h]
def kX : List UInt8 := [222, 233, 212, 216, 247, 19, 30, 217]
def z8 : List UInt8 := [0, 0, 0, 0, 0, 0, 0, 0]
def k0 : List UInt32 := [0, 0, 0, 0]
theorem known_e1 : (it (xEnc k0) 32 (0, 0, 0)).1 = 3739866328 ∧ (it (xEnc k0) 32 (0, 0, 0)).2.1 = 4145225433 := by decide +kernel
theorem known_e2 : (it (xDec k0) 32 (3739866328, 4145225433, 3337565984)).1 = 0 ∧ (it (xDec k0) 32 (3739866328, 4145225433, 3337565984)).2.1 = 0 := by decide +kernel
theorem known_x : Con C N.small_Small_Block [smallV k0 4, .z 8 (bv z8), bool false] [] (okBlk 8) [.sc (bv kX)] := by
  have h := c_blk_x (va := bv z8) (k := k0) (b := z8) (back := false) (r := ((it (xEnc k0) 32 (0, 0, 0)).1, (it (xEnc k0) 32 (0, 0, 0)).2.1)) rfl rfl
    (by
      have := c_xtea_enc (tag := 4) (k := k0) (v := 0) (w := 0) (x := 0) (y := 0) rfl rfl rfl
      rw [show beW (sub z8 0 4) = 0 by decide, show beW (sub z8 4 4) = 0 by decide]
      exact this)
  rw [known_e1.1, known_e1.2] at h
  exact h
theorem known_y : Con C N.small_Small_Block [smallV k0 4, .z 8 (bv kX), bool true] [] (okBlk 8) [.sc (bv z8)] := by
  have h := c_blk_x (va := bv kX) (k := k0) (b := kX) (back := true) (r := ((it (xDec k0) 32 (3739866328, 4145225433, 3337565984)).1, (it (xDec k0) 32 (3739866328, 4145225433, 3337565984)).2.1)) rfl rfl
    (by
      have := c_xtea_dec (tag := 4) (k := k0) (v := 3739866328) (w := 4145225433) (x := 3739866328) (y := 4145225433) rfl rfl rfl
      rw [show beW (sub kX 0 4) = 3739866328 by decide, show beW (sub kX 4 4) = 4145225433 by decide]
      exact this)
  rw [known_e2.1, known_e2.2] at h
  exact h
theorem known_n : Con C N.cipher_New [i64 4, .z 16 (bv (List.replicate 16 0))] [] (.ret (.t [cipV 4 N.small_Small_Block [wz k0, i64 4], i64 0])) [] := by
  refine c_new_small (n := 16) (.inl rfl) (by decide) (by decide) ?_
  have h := c_small_new_x (va := bv (List.replicate 16 0)) (key := List.replicate 16 0) rfl rfl
  rw [show wrds beW (List.replicate 16 0) 4 = k0 by decide] at h
  exact h
theorem c_known : Con C N.law11_known [] [] (.ret (bool true)) [] := by
  refine con.law11_known ?_
  refine ⟨by decide, by decide, by decide, ?_⟩
  refine ⟨[], _, _, _, _, known_n, rfl, rfl, ?_⟩
  refine ⟨[], _, _, _, _, c_size_no (t := 0) (by simp [okTag]), rfl, rfl, ?_⟩
  refine ⟨[], _, _, _, _, c_csize (t := 4) (by simp [okTag]), rfl, rfl, ?_⟩
  refine ⟨by decide, by decide, by decide, ?_⟩
  refine ⟨[], _, _, _, _, c_enc_ok (n := 8) known_x, rfl, rfl, ?_⟩
  refine ⟨[], _, _, _, _, c_dec_ok (n := 8) known_y, rfl, rfl, ?_⟩
  refine ⟨by decide, kX, rfl, ?_⟩
  refine ⟨by decide, z8, rfl, ?_⟩
  refine spl_t (by rw [str_beq]; decide) ?_
  refine ⟨by decide, z8, rfl, ?_⟩
  refine ⟨by decide, by decide, by decide, ?_⟩
  refine ⟨by decide, z8, rfl, ?_⟩
  refine ⟨_, rfl, [], ?_, trivial⟩
  show bool ((bs z8).toList == (bs z8).toList) = _
  rw [str_beq]
  rfl
def digs (x : Nat) : List UInt8 := (if 10 ≤ x then [UInt8.ofNat (48 + x / 10)] else []) ++ [UInt8.ofNat (48 + x % 10)]
def sAt (l : List Nat) : Nat → List UInt8
  | 0 => []
  | i + 1 => (if 0 < i then sAt l i ++ [32] else sAt l i) ++ digs (l.getD i 0)
def tLens (t : Int) : List Nat := (cLens t).map Int.toNat
def tSizes : List Int := [0, 8, 8, 8, 8, 8, 16, 16, 8, 0]
def tKeys : List (List UInt8) := [[], [56], [49, 54, 32, 50, 52], [49, 54], [49, 54], [51, 50], [49, 54, 32, 50, 52, 32, 51, 50], [49, 54, 32, 50, 52, 32, 51, 50], [49, 54], []]
theorem bs_app (a b : List UInt8) : bs a ++ bs b = bs (a ++ b) := by
  apply ByteArray.ext
  rw [ByteArray.data_append]
  simp
theorem bs_size (a : List UInt8) : (bs a).size = a.length := by
  show a.toArray.size = _
  simp
theorem digs_len (x) : (digs x).length ≤ 2 := by unfold digs; split <;> simp
theorem sAt_len (l) : ∀ i, (sAt l i).length ≤ 3 * i
  | 0 => by simp [sAt]
  | i + 1 => by
    have := sAt_len l i
    have := digs_len (l.getD i 0)
    unfold sAt
    split <;> simp only [List.length_append, List.length_cons, List.length_nil] <;> omega
theorem tab_ok : ∀ k : Nat, k < 10 → (cSize k = tSizes.getD k 0 ∧ sAt (tLens k) (cLens k).length = tKeys.getD k []) := by decide
theorem tab_len : ∀ k : Nat, k < 10 → ∀ x ∈ cLens k, 8 ≤ x ∧ x ≤ 32 := by decide
theorem tk_get {k : Nat} (h : k < 10) : (tKeys.map fun l => Value.string (bs l))[k]? = some (.string (bs (tKeys.getD k []))) := by
  have : k < tKeys.length := h
  simp [this]
theorem q10 {x : Nat} (h : x ≤ 32) : IntKind.u8.wrap (IntKind.i64.wrap (48 + IntKind.i64.wrap ((x : Int).tdiv 10))) = ((UInt8.ofNat (48 + x / 10)).toNat : Int) := by
  rw [show ((x : Int).tdiv 10) = ((x / 10 : Nat) : Int) from rfl, IntWalk.i64_in (((x / 10 : Nat) : Int)) (by omega), IntWalk.i64_in _ (by omega), ← nat_u8]; rfl
theorem r10 {x : Nat} (h : x ≤ 32) : IntKind.u8.wrap (IntKind.i64.wrap (48 + ((x : Int).tmod 10))) = ((UInt8.ofNat (48 + x % 10)).toNat : Int) := by
  rw [show ((x : Int).tmod 10) = ((x % 10 : Nat) : Int) from rfl, IntWalk.i64_in _ (by omega), ← nat_u8]; rfl
theorem c_table {which : Int} (hw : -9223372036854775808 ≤ which ∧ which ≤ 9223372036854775807) : Con C N.law11_CipherTable [i64 which] [] (.ret (bool true)) [] := by
  refine con.law11_CipherTable ?_
  refine ⟨[], _, _, _, _, c_known, rfl, rfl, ?_⟩
  refine ⟨[], _, _, _, _, c_within (n := 10) (by decide) (by decide) hw, rfl, rfl, ?_⟩
  obtain ⟨k, hk, hk10⟩ : ∃ k : Nat, which % 10 = k ∧ k < 10 := ⟨(which % 10).toNat, (by omega), (by omega)⟩
  rw [hk]
  obtain ⟨t1, t2⟩ := tab_ok k hk10
  have t3 := tab_len k hk10
  have fin : ∀ (s : List UInt8), s = tKeys.getD k [] → (bs s).toList = (bs (tKeys.getD k [])).toList := fun s h => by rw [h]
  by_cases hok : okTag k
  · refine ⟨[], _, _, _, _, c_lens hok, rfl, rfl, ?_⟩
    have hl := cLens_len k
    refine loopN (fun i => ⟨[(3, i64 k), (4, .z 10 (iv tSizes)), (5, .z 10 (tKeys.map fun l => .string (bs l))), (6, str (sAt (tLens k) i)), (7, iz (cLens k)), (8, i64 i)], []⟩) (cLens k).length ⟨[], ⟨rfl, rfl, rfl, rfl, ?_, rfl, trivial⟩, trivial⟩ fun i hi => ?_
    · show V.z _ (sub _ 0 _) = _
      rw [iv_all rfl]
    refine spl_d (fun h => ?_) (fun h => ?_)
    · have hlt : i < (cLens k).length := (by omega)
      have hs := sAt_len (tLens k) i
      obtain ⟨x, hx, hg⟩ : ∃ x : Nat, (cLens k)[i] = x ∧ (tLens k).getD i 0 = x := by
        have := t3 _ (List.getElem_mem hlt)
        refine ⟨((cLens k)[i]).toNat, (by omega), ?_⟩
        simp [tLens, List.getD_eq_getElem?_getD, hlt]
      have hb := t3 _ (List.getElem_mem hlt)
      rw [hx] at hb
      have get : (iv (cLens k))[((i : Int)).toNat]? = some (.int .i64 x) := by rw [Int.toNat_natCast, iv_get hlt, hx]
      have hb1 : 8 ≤ x := (by omega)
      have hb2 : x ≤ 32 := (by omega)
      have ex : ∀ s0 : List UInt8, s0 = (if 0 < i then sAt (tLens k) i ++ [32] else sAt (tLens k) i) → sAt (tLens k) (i + 1) = s0 ++ digs x := fun s0 h => by rw [h, ← hg]; rfl
      refine spl_d (fun h0 => ?_) (fun h0 => ?_)
      · have e0 := ex (sAt (tLens k) i ++ [32]) (by rw [if_pos (by omega)])
        have l0 : (sAt (tLens k) i ++ [32]).length ≤ 10 := by simp only [List.length_append, List.length_cons, List.length_nil]; omega
        refine ⟨by show (bs (sAt (tLens k) i)).size + (bs [32]).size ≤ _; rw [bs_size, bs_size]; simp only [List.length_cons, List.length_nil]; omega, ?_⟩
        have eb : (bs (sAt (tLens k) i) ++ bs [32]) = bs (sAt (tLens k) i ++ [32]) := bs_app _ _
        rw [eb]
        refine ⟨(by omega), (by omega), ?_⟩
        refine ⟨_, get, ?_⟩
        refine spl_d (fun h8 => absurd h8 (by omega)) (fun _ => ?_)
        refine ⟨(by omega), (by omega), ?_⟩
        refine ⟨_, get, ?_⟩
        refine spl_d (fun h8 => absurd h8 (by omega)) (fun _ => ?_)
        refine ⟨(by omega), (by omega), ?_⟩
        refine ⟨_, get, ?_⟩
        refine spl_d (fun h10 => ?_) (fun h10 => ?_)
        · skip
          refine ⟨(by omega), (by omega), ?_⟩
          refine ⟨_, get, ?_⟩
          refine ⟨by decide, ?_⟩
          refine ⟨Nat.le_refl _, [UInt8.ofNat (48 + x / 10)], congrArg (fun n => [Value.int .u8 n]) (q10 hb2), ?_⟩
          refine ⟨by show (bs (sAt (tLens k) i ++ [32])).size + (bs [UInt8.ofNat (48 + x / 10)]).size ≤ _; rw [bs_size, bs_size]; simp only [List.length_cons, List.length_nil]; omega, ?_⟩
          refine ⟨(by omega), (by omega), ?_⟩
          refine ⟨_, get, ?_⟩
          refine ⟨by decide, ?_⟩
          refine ⟨Nat.le_refl _, [UInt8.ofNat (48 + x % 10)], congrArg (fun n => [Value.int .u8 n]) (r10 hb2), ?_⟩
          rw [bs_app]
          refine ⟨by show (bs (sAt (tLens k) i ++ [32] ++ [UInt8.ofNat (48 + x / 10)])).size + (bs [UInt8.ofNat (48 + x % 10)]).size ≤ _; rw [bs_size, bs_size]; simp only [List.length_append, List.length_cons, List.length_nil] at l0 ⊢; omega, ?_⟩
          refine ⟨i + 1, (by omega), (by omega), [], ⟨rfl, rfl, rfl, ?_, rfl, congrArg (vi .i64) (by first | rfl | (simp only [IntKind.wrap_i64]; omega) | (simp only [IntKind.wrap_i64, storeL_len, bv_len, iv_len, wv_len, List.length_append, List.length_replicate, List.length_set, List.length_take, List.length_drop, List.length_cons, List.length_nil, sub_length, List.length_reverse, List.length_map, List.length_zipWith]; omega)), trivial⟩, trivial⟩
          show V.s (.string (bs (sAt (tLens k) i ++ [32] ++ [UInt8.ofNat (48 + x / 10)]) ++ bs [UInt8.ofNat (48 + x % 10)])) = str _
          rw [bs_app, e0, digs, if_pos (by omega), ← List.append_assoc]
        · skip
          refine ⟨(by omega), (by omega), ?_⟩
          refine ⟨_, get, ?_⟩
          refine ⟨by decide, ?_⟩
          refine ⟨Nat.le_refl _, [UInt8.ofNat (48 + x % 10)], congrArg (fun n => [Value.int .u8 n]) (r10 hb2), ?_⟩
          refine ⟨by show (bs (sAt (tLens k) i ++ [32])).size + (bs [UInt8.ofNat (48 + x % 10)]).size ≤ _; rw [bs_size, bs_size]; simp only [List.length_append, List.length_cons, List.length_nil] at l0 ⊢; omega, ?_⟩
          refine ⟨i + 1, (by omega), (by omega), [], ⟨rfl, rfl, rfl, ?_, rfl, congrArg (vi .i64) (by first | rfl | (simp only [IntKind.wrap_i64]; omega) | (simp only [IntKind.wrap_i64, storeL_len, bv_len, iv_len, wv_len, List.length_append, List.length_replicate, List.length_set, List.length_take, List.length_drop, List.length_cons, List.length_nil, sub_length, List.length_reverse, List.length_map, List.length_zipWith]; omega)), trivial⟩, trivial⟩
          show V.s (.string (bs (sAt (tLens k) i ++ [32]) ++ bs [UInt8.ofNat (48 + x % 10)])) = str _
          rw [bs_app, e0, digs, if_neg (by omega), List.nil_append]
      · have e0 := ex (sAt (tLens k) i) (by rw [if_neg (by omega)])
        have l0 : (sAt (tLens k) i).length ≤ 10 := by omega
        refine ⟨(by omega), (by omega), ?_⟩
        refine ⟨_, get, ?_⟩
        refine spl_d (fun h8 => absurd h8 (by omega)) (fun _ => ?_)
        refine ⟨(by omega), (by omega), ?_⟩
        refine ⟨_, get, ?_⟩
        refine spl_d (fun h8 => absurd h8 (by omega)) (fun _ => ?_)
        refine ⟨(by omega), (by omega), ?_⟩
        refine ⟨_, get, ?_⟩
        refine spl_d (fun h10 => ?_) (fun h10 => ?_)
        · skip
          refine ⟨(by omega), (by omega), ?_⟩
          refine ⟨_, get, ?_⟩
          refine ⟨by decide, ?_⟩
          refine ⟨Nat.le_refl _, [UInt8.ofNat (48 + x / 10)], congrArg (fun n => [Value.int .u8 n]) (q10 hb2), ?_⟩
          refine ⟨by show (bs (sAt (tLens k) i)).size + (bs [UInt8.ofNat (48 + x / 10)]).size ≤ _; rw [bs_size, bs_size]; simp only [List.length_cons, List.length_nil]; omega, ?_⟩
          refine ⟨(by omega), (by omega), ?_⟩
          refine ⟨_, get, ?_⟩
          refine ⟨by decide, ?_⟩
          refine ⟨Nat.le_refl _, [UInt8.ofNat (48 + x % 10)], congrArg (fun n => [Value.int .u8 n]) (r10 hb2), ?_⟩
          rw [bs_app]
          refine ⟨by show (bs (sAt (tLens k) i ++ [UInt8.ofNat (48 + x / 10)])).size + (bs [UInt8.ofNat (48 + x % 10)]).size ≤ _; rw [bs_size, bs_size]; simp only [List.length_append, List.length_cons, List.length_nil] at l0 ⊢; omega, ?_⟩
          refine ⟨i + 1, (by omega), (by omega), [], ⟨rfl, rfl, rfl, ?_, rfl, congrArg (vi .i64) (by first | rfl | (simp only [IntKind.wrap_i64]; omega) | (simp only [IntKind.wrap_i64, storeL_len, bv_len, iv_len, wv_len, List.length_append, List.length_replicate, List.length_set, List.length_take, List.length_drop, List.length_cons, List.length_nil, sub_length, List.length_reverse, List.length_map, List.length_zipWith]; omega)), trivial⟩, trivial⟩
          show V.s (.string (bs (sAt (tLens k) i ++ [UInt8.ofNat (48 + x / 10)]) ++ bs [UInt8.ofNat (48 + x % 10)])) = str _
          rw [bs_app, e0, digs, if_pos (by omega), ← List.append_assoc]
        · skip
          refine ⟨(by omega), (by omega), ?_⟩
          refine ⟨_, get, ?_⟩
          refine ⟨by decide, ?_⟩
          refine ⟨Nat.le_refl _, [UInt8.ofNat (48 + x % 10)], congrArg (fun n => [Value.int .u8 n]) (r10 hb2), ?_⟩
          refine ⟨by show (bs (sAt (tLens k) i)).size + (bs [UInt8.ofNat (48 + x % 10)]).size ≤ _; rw [bs_size, bs_size]; simp only [List.length_append, List.length_cons, List.length_nil] at l0 ⊢; omega, ?_⟩
          refine ⟨i + 1, (by omega), (by omega), [], ⟨rfl, rfl, rfl, ?_, rfl, congrArg (vi .i64) (by first | rfl | (simp only [IntKind.wrap_i64]; omega) | (simp only [IntKind.wrap_i64, storeL_len, bv_len, iv_len, wv_len, List.length_append, List.length_replicate, List.length_set, List.length_take, List.length_drop, List.length_cons, List.length_nil, sub_length, List.length_reverse, List.length_map, List.length_zipWith]; omega)), trivial⟩, trivial⟩
          show V.s (.string (bs (sAt (tLens k) i) ++ bs [UInt8.ofNat (48 + x % 10)])) = str _
          rw [bs_app, e0, digs, if_neg (by omega), List.nil_append]
    · obtain rfl : i = (cLens k).length := (by omega)
      refine ⟨[], _, _, _, _, c_size hok, rfl, rfl, ?_⟩
      refine ⟨(by omega), (by omega), ?_⟩
      refine ⟨.int .i64 (tSizes.getD k 0), by rw [Int.toNat_natCast]; exact iv_getD (k := tSizes) hk10, ?_⟩
      refine spl_t (by rw [t1]; exact beq_self_eq_true _) ?_
      refine ⟨(by omega), (by omega), ?_⟩
      refine ⟨.string (bs (tKeys.getD k [])), by rw [Int.toNat_natCast]; exact tk_get hk10, ?_⟩
      refine ⟨_, rfl, [], congrArg bool ?_, trivial⟩
      rw [str_beq, t2]
      exact decide_eq_true rfl
  · refine ⟨[], _, _, _, _, c_lens_no hok, rfl, rfl, ?_⟩
    refine loopN (fun i => ⟨[(3, i64 k), (4, .z 10 (iv tSizes)), (5, .z 10 (tKeys.map fun l => .string (bs l))), (6, str []), (7, nilv), (8, i64 i)], []⟩) 0 ⟨[], ⟨rfl, rfl, rfl, rfl, rfl, rfl, trivial⟩, trivial⟩ fun i hi => ?_
    obtain rfl : i = 0 := (by omega)
    refine ⟨[], _, _, _, _, c_size_no hok, rfl, rfl, ?_⟩
    rw [cSize_no hok] at t1
    rw [cLens_no hok] at t2
    refine ⟨(by omega), (by omega), ?_⟩
    refine ⟨.int .i64 (tSizes.getD k 0), by rw [Int.toNat_natCast]; exact iv_getD (k := tSizes) hk10, ?_⟩
    refine spl_t (by rw [← t1]; rfl) ?_
    refine ⟨(by omega), (by omega), ?_⟩
    refine ⟨.string (bs (tKeys.getD k [])), by rw [Int.toNat_natCast]; exact tk_get hk10, ?_⟩
    refine ⟨_, rfl, [], congrArg bool ?_, trivial⟩
    show ((bs []).toList == _) = true
    rw [str_beq, ← t2]
    rfl
end Go.Scr
