/- Specs on lists of bytes: streams, bits, sums, frames. -/
import Derived.Test.YtkelibikjkgohaaK
namespace Go.Proofs.Ytkelibikjkgohaa.Sp

abbrev Str := List UInt8

/-- a text out of its bytes; a text's bytes -/
def ofL (l : Str) : ByteArray := ⟨l.toArray⟩
def toL (s : ByteArray) : Str := s.data.toList
theorem toL_ofL (l : Str) : toL (ofL l) = l := by simp [toL, ofL]
theorem ofL_toL (s : ByteArray) : ofL (toL s) = s := by simp [toL, ofL]
theorem toL_length (s : ByteArray) : (toL s).length = s.size := Array.length_toList
theorem ofL_size (l : Str) : (ofL l).size = l.length := by simp [ofL, ByteArray.size]
theorem toL_get (s : ByteArray) (i : Nat) (h : i < s.size) : (toL s)[i]? = some s[i] := by
  have h' : i < s.data.size := h
  show s.data.toList[i]? = _
  rw [Array.getElem?_toList, Array.getElem?_eq_getElem h']; rfl
theorem extract_ofL (s : ByteArray) (i j : Nat) : s.extract i j = ofL (((toL s).drop i).take (j - i)) := by
  apply ByteArray.ext
  simp [ofL, toL, ByteArray.data_extract]
  apply Array.ext'
  rw [Array.toList_extract, List.extract_eq_take_drop]
theorem ofL_append (a b : Str) : ofL a ++ ofL b = ofL (a ++ b) := by
  apply ByteArray.ext
  simp [ofL, ByteArray.data_append]
theorem toL_append (a b : ByteArray) : toL (a ++ b) = toL a ++ toL b := by
  simp [toL, ByteArray.data_append]
theorem ofL_snoc (a : Str) (c : UInt8) : ofL a ++ (⟨#[c]⟩ : ByteArray) = ofL (a ++ [c]) := ofL_append a [c]
theorem drop_cons (s : ByteArray) (i : Nat) (h : i < s.size) : (toL s).drop i = s[i] :: (toL s).drop (i + 1) := by
  have hl := toL_length s
  rw [List.drop_eq_getElem_cons (by omega)]
  congr 1
theorem take_succ (s : ByteArray) (i : Nat) (h : i < s.size) : (toL s).take (i + 1) = (toL s).take i ++ [s[i]] := by
  have hl := toL_length s
  rw [List.take_add_one, toL_get s i h]; rfl

/-! ### chapter 1 -/
def isBit (c : UInt8) : Bool := c == 48 || c == 49

def clean : Str → Str
  | [] => []
  | c :: t => if c = 35 then [35] else if isBit c = true then c :: clean t else []

def common : Str → Str → Str
  | a :: s, b :: t => if a = b then a :: common s t else []
  | _, _ => []

/-- a is a front of b -/
def Front (a b : Str) : Prop := a <+: b

def bits (n : Int) : Nat → Str
  | 0 => []
  | k + 1 => (if (n / 2 ^ k) % 2 = 1 then (49 : UInt8) else 48) :: bits n k

def bitOf (c : UInt8) : Int := if c = 49 then 1 else 0

def numFrom (n : Int) : Str → Int
  | [] => n
  | c :: t => numFrom (2 * n + bitOf c) t

def num (s : Str) : Int := numFrom 0 s

def allBits (s : Str) : Bool := s.all isBit

def turned (c : UInt8) : UInt8 := if c = 48 then 49 else if c = 49 then 48 else if c = 35 then 48 else c

def turn : Str → Nat → Str
  | [], _ => []
  | c :: t, 0 => turned c :: t
  | c :: t, k + 1 => c :: turn t k

/-- bits, then the tail -/
def whole : Str → Bool
  | [] => false
  | [c] => c == 35
  | c :: d :: t => isBit c && whole (d :: t)

/-! ### clean -/
theorem clean_front (s : Str) : clean s <+: s := by
  induction s with
  | nil => exact List.prefix_refl _
  | cons c t ih =>
    unfold clean
    split
    · rename_i h; subst h; exact ⟨t, rfl⟩
    · split
      · obtain ⟨r, hr⟩ := ih; exact ⟨r, by simp [hr]⟩
      · exact ⟨_, rfl⟩

theorem clean_idem (s : Str) : clean (clean s) = clean s := by
  induction s with
  | nil => rfl
  | cons c t ih =>
    by_cases h : c = 35
    · subst h; simp [clean]
    · by_cases h2 : isBit c = true
      · simp [clean, h, h2, ih]
      · simp [clean, h, h2]

/-- a stream: a text that is its own clean front -/
def Stream (s : Str) : Prop := clean s = s

theorem stream_clean (s : Str) : Stream (clean s) := clean_idem s

theorem stream_cons {c : UInt8} {t : Str} (h : Stream (c :: t)) : (c = 35 ∧ t = []) ∨ (c ≠ 35 ∧ isBit c = true ∧ Stream t) := by
  unfold Stream clean at h
  by_cases e : c = 35
  · subst e; simp at h; exact .inl ⟨rfl, h⟩
  · by_cases e2 : isBit c = true
    · simp [e, e2] at h; exact .inr ⟨e, e2, h⟩
    · simp [e, e2] at h

theorem stream_front {s t : Str} (h : Stream t) (hf : s <+: t) : Stream s := by
  induction s generalizing t with
  | nil => rfl
  | cons c s ih =>
    cases t with
    | nil => exact absurd (List.prefix_nil.1 hf) (by simp)
    | cons d t =>
      obtain ⟨rfl, hf'⟩ := List.cons_prefix_cons.1 hf
      rcases stream_cons h with ⟨rfl, rfl⟩ | ⟨h1, h2, h3⟩
      · have := List.prefix_nil.1 hf'; subst this; rfl
      · have := ih h3 hf'
        unfold Stream clean; simp [h1, h2]; exact this

theorem stream_nil : Stream [] := rfl

/-! ### common -/
theorem common_left (a b : Str) : common a b <+: a := by
  induction a generalizing b with
  | nil => cases b <;> exact List.prefix_refl _
  | cons x s ih =>
    cases b with
    | nil => exact List.nil_prefix
    | cons y t =>
      unfold common
      split
      · exact List.cons_prefix_cons.2 ⟨rfl, ih t⟩
      · exact List.nil_prefix

theorem common_comm (a b : Str) : common a b = common b a := by
  induction a generalizing b with
  | nil => cases b <;> rfl
  | cons x s ih =>
    cases b with
    | nil => rfl
    | cons y t =>
      unfold common
      by_cases h : x = y
      · subst h; simp [ih]
      · have h' : ¬ y = x := fun e => h e.symm
        simp [h, h']

theorem common_right (a b : Str) : common a b <+: b := by rw [common_comm]; exact common_left b a

theorem common_of_front {a b : Str} (h : a <+: b) : common a b = a := by
  induction a generalizing b with
  | nil => cases b <;> rfl
  | cons x s ih =>
    cases b with
    | nil => exact absurd (List.prefix_nil.1 h) (by simp)
    | cons y t =>
      obtain ⟨rfl, h'⟩ := List.cons_prefix_cons.1 h
      simp [common, ih h']

theorem common_self (a : Str) : common a a = a := common_of_front (List.prefix_refl a)

theorem common_nil (a : Str) : common a [] = [] := by cases a <;> rfl
theorem nil_common (a : Str) : common [] a = [] := by cases a <;> rfl

theorem stream_common {a b : Str} (h : Stream a) : Stream (common a b) := stream_front h (common_left a b)

/-! ### bits and numbers -/
theorem bits_length (n : Int) (k : Nat) : (bits n k).length = k := by induction k with
  | zero => rfl
  | succ k ih => simp [bits, ih]

theorem bits_all (n : Int) (k : Nat) : allBits (bits n k) = true := by
  induction k with
  | zero => rfl
  | succ k ih =>
    unfold allBits at ih ⊢
    rw [bits, List.all_cons, ih]
    split <;> rfl

theorem numFrom_bits (n : Int) (k : Nat) (a : Int) : numFrom a (bits n k) = a * 2 ^ k + n % 2 ^ k := by
  induction k generalizing a with
  | zero => simp [bits, numFrom, Int.emod_one]
  | succ k ih =>
    have hb : bitOf (if (n / 2 ^ k) % 2 = 1 then (49 : UInt8) else 48) = (n / 2 ^ k) % 2 := by
      by_cases h : (n / 2 ^ k) % 2 = 1
      · simp [h, bitOf]
      · have : (n / 2 ^ k) % 2 = 0 := by omega
        simp [this, bitOf]
    rw [bits, numFrom, ih, hb]
    have h1 : n % 2 ^ (k + 1) = 2 ^ k * ((n / 2 ^ k) % 2) + n % 2 ^ k := by
      have hp : (2 : Int) ^ (k + 1) = 2 ^ k * 2 := by rw [Int.pow_succ]
      rw [hp]
      have h2 : (0 : Int) < 2 ^ k := Int.pow_pos (by decide)
      have e1 := Int.mul_ediv_add_emod n (2 ^ k)
      have e2 := Int.mul_ediv_add_emod (n / 2 ^ k) 2
      have e3 := Int.mul_ediv_add_emod n (2 ^ k * 2)
      have e4 : n / (2 ^ k * 2) = n / 2 ^ k / 2 := (Int.ediv_ediv_of_nonneg (by omega)).symm
      rw [e4] at e3
      have e5 : 2 ^ k * (n / 2 ^ k) = 2 ^ k * 2 * (n / 2 ^ k / 2) + 2 ^ k * (n / 2 ^ k % 2) := by
        rw [Int.mul_assoc, ← Int.mul_add, e2]
      omega
    rw [h1, Int.pow_succ, Int.add_mul]
    have e1 : 2 * a * 2 ^ k = a * (2 ^ k * 2) := by
      rw [Int.mul_comm 2 a, Int.mul_assoc, Int.mul_comm 2 ((2:Int) ^ k)]
    rw [e1, Int.mul_comm (n / 2 ^ k % 2)]
    omega

theorem num_bits (n : Int) (k : Nat) (h0 : 0 ≤ n) (h1 : n < 2 ^ k) : num (bits n k) = n := by
  unfold num; rw [numFrom_bits]; rw [Int.emod_eq_of_lt h0 h1]; omega

/-! ### sums -/
def sumStep (n : Int) (c : UInt8) : Int :=
  if (n / 32768 = 1) ↔ (c = 49) then (n * 2) % 65536 else ((((n * 2) % 65536).toNat ^^^ 4129 : Nat) : Int)

def sumFrom (n : Int) (s : Str) : Int := s.foldl sumStep n
def sum (s : Str) : Int := sumFrom 65535 s

theorem sumStep_range (n : Int) (c : UInt8) : 0 ≤ sumStep n c ∧ sumStep n c < 65536 := by
  unfold sumStep
  split
  · omega
  · have h : ((n * 2) % 65536).toNat ^^^ 4129 < 2 ^ 16 := Nat.xor_lt_two_pow (by omega) (by omega)
    omega

theorem sumFrom_range (n : Int) (s : Str) (h : 0 ≤ n ∧ n < 65536) : 0 ≤ sumFrom n s ∧ sumFrom n s < 65536 := by
  unfold sumFrom
  induction s generalizing n with
  | nil => exact h
  | cons c t ih => exact ih _ (sumStep_range n c)

theorem sum_range (s : Str) : 0 ≤ sum s ∧ sum s < 65536 := sumFrom_range _ s (by omega)

def wrap (b : Str) : Str := b ++ (bits (sum b) 16 ++ [35])

def opened (s : Str) : Str × Int :=
  if whole s = false then ([], 4) else
  if s.length < 17 then ([], 3) else
  if bits (sum (s.take (s.length - 17))) 16 = (s.drop (s.length - 17)).take 16 then (s.take (s.length - 17), 0) else ([], 5)

theorem whole_append (b : Str) (h : allBits b = true) : whole (b ++ [35]) = true := by
  induction b with
  | nil => rfl
  | cons c t ih =>
    unfold allBits at h ih
    rw [List.all_cons, Bool.and_eq_true] at h
    have := ih h.2
    cases t with
    | nil => simp [whole, h.1]
    | cons d t => simp only [List.cons_append] at this ⊢; rw [whole, h.1, this]; rfl

theorem allBits_append (a b : Str) : allBits (a ++ b) = (allBits a && allBits b) := by unfold allBits; exact List.all_append

theorem opened_wrap (b : Str) (h : allBits b = true) : opened (wrap b) = (b, 0) := by
  have hw : whole (wrap b) = true := by
    unfold wrap
    rw [← List.append_assoc]
    exact whole_append _ (by rw [allBits_append, h, bits_all]; rfl)
  have hl : (wrap b).length = b.length + 17 := by simp [wrap, bits_length]
  have ht : (wrap b).take ((wrap b).length - 17) = b := by rw [hl]; simp [wrap]
  have hd : ((wrap b).drop ((wrap b).length - 17)).take 16 = bits (sum b) 16 := by
    rw [hl]; simp only [Nat.add_sub_cancel]; unfold wrap
    rw [List.drop_left]
    exact List.take_left' (bits_length _ _)
  unfold opened
  rw [hw, if_neg (by simp), if_neg (by omega), ht, hd, if_pos rfl]

theorem whole_stream {s : Str} (h : whole s = true) : Stream s := by
  induction s with
  | nil => rfl
  | cons c t ih =>
    cases t with
    | nil => simp [whole] at h; subst h; rfl
    | cons d t =>
      rw [whole, Bool.and_eq_true] at h
      have h3 := ih h.2
      have hc : c ≠ 35 := by rintro rfl; simp [isBit] at h
      unfold Stream clean; simp only [if_neg hc, h.1, if_true]; rw [h3]

/-- a whole text cut short is none -/
theorem whole_front {s t : Str} (ht : whole t = true) (h : s <+: t) (hne : s ≠ t) : whole s = false := by
  induction s generalizing t with
  | nil => rfl
  | cons c s ih =>
    cases t with
    | nil => exact absurd (List.prefix_nil.1 h) (by simp)
    | cons d t =>
      obtain ⟨rfl, h'⟩ := List.cons_prefix_cons.1 h
      have hst : s ≠ t := fun e => hne (by rw [e])
      cases t with
      | nil => exact absurd (List.prefix_nil.1 h') hst
      | cons e t =>
        rw [whole, Bool.and_eq_true] at ht
        cases s with
        | nil => simp only [whole]; cases hh : (c == 35) with
          | false => rfl
          | true => have := eq_of_beq hh; subst this; simp [isBit] at ht
        | cons f s => rw [whole, ih ht.2 h' hst]; simp

/-! ### chapter 5: frames -/
abbrev Item := P.S26
abbrev Frame := P.S29
/-- N, Pi, E, G, First, Pairs -/
abbrev Conf := P.S24

def slots (c : Conf) : Int := c.f0 + c.f5.length

/-- what Check allows -/
structure ConfOk (c : Conf) : Prop where
  n : 6 ≤ c.f0 ∧ c.f0 ≤ 12
  e : 0 ≤ c.f2 ∧ c.f2 ≤ 100
  g : 0 ≤ c.f3 ∧ c.f3 ≤ 100
  pi : 4 * (c.f2 + c.f3 + 1) ≤ c.f1 ∧ c.f1 ≤ 10000
  first : 0 ≤ c.f4 ∧ c.f4 ≤ 65535
  len : c.f5.length ≤ 3
  pairs : ∀ a ∈ c.f5, -1 ≤ a ∧ a < c.f0

def valueB (i : Item) : Bool := (i.f0 == 1 && i.f1 == 0) || (i.f0 == 2 && (decide (0 ≤ i.f1) && decide (i.f1 ≤ 255)))
def emptyB (i : Item) : Bool := i.f0 == 0 && i.f1 == 0

def echoes (c : Conf) (kind slot : Int) : Int := if kind = 3 ∧ slot < c.f0 then slots c else 0

def payB (f : Frame) : Bool := if f.f0 = 3 then valueB f.f3 else emptyB f.f3

def frameCheck (c : Conf) (f : Frame) : Int :=
  if f.f2 < 0 ∨ f.f2 ≥ slots c ∨ f.f1 < 0 ∨ f.f1 > 65535 then 1 else
  if f.f0 < 1 ∨ f.f0 > 3 ∨ (f.f2 ≥ c.f0 ∧ f.f0 ≠ 3) then 6 else
  if payB f = false then 1 else
  if (f.f4.length : Int) ≠ echoes c f.f0 f.f2 then 2 else
  if f.f4.any (fun i => !emptyB i && !valueB i) = true then 1 else 0

def itemBits (i : Item) : Str := bits i.f0 2 ++ bits i.f1 8
def echoBits (l : List Item) : Str := l.flatMap itemBits
def body (f : Frame) : Str := bits f.f0 2 ++ (bits f.f1 16 ++ (bits f.f2 6 ++ (itemBits f.f3 ++ echoBits f.f4)))
def text (f : Frame) : Str := wrap (body f)

def readItem (s : Str) : Item := ⟨num (s.take 2), num ((s.drop 2).take 8)⟩
def readItems : Nat → Str → List Item
  | 0, _ => []
  | n + 1, s => readItem s :: readItems n (s.drop 10)

def zeroFrame : Frame := ⟨0, 0, 0, ⟨0, 0⟩, []⟩

def rawFrame (b : Str) : Frame := ⟨num (b.take 2), num ((b.drop 2).take 16), num ((b.drop 18).take 6), readItem (b.drop 24), readItems ((b.length - 34) / 10) (b.drop 34)⟩

def readBits (c : Conf) (b : Str) : Frame × Int :=
  if b.length < 34 then (zeroFrame, 3) else
  if ((b.length - 34 : Nat) : Int) ≠ 10 * echoes c (num (b.take 2)) (num ((b.drop 18).take 6)) then (zeroFrame, 2) else
  if frameCheck c (rawFrame b) ≠ 0 then (zeroFrame, frameCheck c (rawFrame b)) else (rawFrame b, 0)

def read (c : Conf) (s : Str) : Frame × Int :=
  if (opened s).2 ≠ 0 then (zeroFrame, (opened s).2) else readBits c (opened s).1

theorem itemBits_length (i : Item) : (itemBits i).length = 10 := by simp [itemBits, bits_length]
theorem echoBits_length (l : List Item) : (echoBits l).length = 10 * l.length := by
  unfold echoBits
  induction l with
  | nil => rfl
  | cons i l ih => simp [itemBits_length, ih]; omega
theorem allBits_item (i : Item) : allBits (itemBits i) = true := by unfold itemBits; rw [allBits_append, bits_all, bits_all]; rfl
theorem allBits_echo (l : List Item) : allBits (echoBits l) = true := by
  unfold echoBits
  induction l with
  | nil => rfl
  | cons i l ih => rw [List.flatMap_cons, allBits_append, allBits_item, ih]; rfl
theorem allBits_body (f : Frame) : allBits (body f) = true := by
  unfold body
  simp only [allBits_append, bits_all, allBits_item, allBits_echo]; rfl
theorem body_length (f : Frame) : (body f).length = 34 + 10 * f.f4.length := by
  unfold body; simp [bits_length, itemBits_length, echoBits_length]; omega
theorem text_length (f : Frame) : (text f).length = 51 + 10 * f.f4.length := by
  unfold text wrap; simp [bits_length, body_length]; omega

def itemRange (i : Item) : Prop := (0 ≤ i.f0 ∧ i.f0 < 4) ∧ (0 ≤ i.f1 ∧ i.f1 < 256)

theorem readItem_bits (i : Item) (h : itemRange i) (t : Str) : readItem (itemBits i ++ t) = i := by
  unfold readItem itemBits
  have e1 : List.take 2 (bits i.f0 2 ++ bits i.f1 8 ++ t) = bits i.f0 2 := by
    rw [List.append_assoc]; exact List.take_left' (bits_length _ _)
  have e2 : List.drop 2 (bits i.f0 2 ++ bits i.f1 8 ++ t) = bits i.f1 8 ++ t := by
    rw [List.append_assoc]; exact List.drop_left' (bits_length _ _)
  have e3 : List.take 8 (bits i.f1 8 ++ t) = bits i.f1 8 := List.take_left' (bits_length _ _)
  rw [e1, e2, e3, num_bits _ _ h.1.1 (by have := h.1.2; omega), num_bits _ _ h.2.1 (by have := h.2.2; omega)]

theorem readItems_bits (l : List Item) (h : ∀ i ∈ l, itemRange i) : readItems l.length (echoBits l) = l := by
  induction l with
  | nil => rfl
  | cons i l ih =>
    have e : echoBits (i :: l) = itemBits i ++ echoBits l := rfl
    rw [List.length_cons, readItems, e, readItem_bits i (h i (by simp)), List.drop_left' (itemBits_length i), ih (fun j hj => h j (by simp [hj]))]

theorem range_of_value {i : Item} (h : valueB i = true) : itemRange i := by
  unfold valueB at h; unfold itemRange
  simp only [Bool.or_eq_true, Bool.and_eq_true, beq_iff_eq, decide_eq_true_eq] at h
  rcases h with ⟨h1, h2⟩ | ⟨h1, h2, h3⟩ <;> omega
theorem range_of_empty {i : Item} (h : emptyB i = true) : itemRange i := by
  unfold emptyB at h; unfold itemRange
  simp only [Bool.and_eq_true, beq_iff_eq] at h
  omega

theorem rawFrame_body (f : Frame) (h0 : 0 ≤ f.f0 ∧ f.f0 < 4) (h1 : 0 ≤ f.f1 ∧ f.f1 < 65536) (h2 : 0 ≤ f.f2 ∧ f.f2 < 64) (h3 : itemRange f.f3) (h4 : ∀ i ∈ f.f4, itemRange i) : rawFrame (body f) = f := by
  have a1 : (body f).take 2 = bits f.f0 2 := List.take_left' (bits_length _ _)
  have a2 : (body f).drop 2 = bits f.f1 16 ++ (bits f.f2 6 ++ (itemBits f.f3 ++ echoBits f.f4)) := List.drop_left' (bits_length _ _)
  have a3 : (body f).drop 18 = bits f.f2 6 ++ (itemBits f.f3 ++ echoBits f.f4) := by
    rw [show (18 : Nat) = 2 + 16 from rfl, ← List.drop_drop, a2]; exact List.drop_left' (bits_length _ _)
  have a4 : (body f).drop 24 = itemBits f.f3 ++ echoBits f.f4 := by
    rw [show (24 : Nat) = 18 + 6 from rfl, ← List.drop_drop, a3]; exact List.drop_left' (bits_length _ _)
  have a5 : (body f).drop 34 = echoBits f.f4 := by
    rw [show (34 : Nat) = 24 + 10 from rfl, ← List.drop_drop, a4]; exact List.drop_left' (itemBits_length _)
  have a6 : ((body f).length - 34) / 10 = f.f4.length := by rw [body_length]; omega
  unfold rawFrame
  rw [a1, a2, a3, a4, a5, a6, List.take_left' (bits_length _ _), List.take_left' (bits_length _ _), readItem_bits _ h3, readItems_bits _ h4,
    num_bits _ _ h0.1 (by have := h0.2; omega), num_bits _ _ h1.1 (by have := h1.2; omega), num_bits _ _ h2.1 (by have := h2.2; omega)]

theorem slots_range {c : Conf} (h : ConfOk c) : 6 ≤ slots c ∧ slots c ≤ 15 := by
  unfold slots; have := h.n; have := h.len; omega

structure FrameOk (c : Conf) (f : Frame) : Prop where
  slot : 0 ≤ f.f2 ∧ f.f2 < slots c
  round : 0 ≤ f.f1 ∧ f.f1 ≤ 65535
  kind : 1 ≤ f.f0 ∧ f.f0 ≤ 3
  data : f.f2 ≥ c.f0 → f.f0 = 3
  pay : payB f = true
  len : (f.f4.length : Int) = echoes c f.f0 f.f2
  echo : ∀ i ∈ f.f4, emptyB i = true ∨ valueB i = true

theorem frameCheck_iff (c : Conf) (f : Frame) : frameCheck c f = 0 ↔ FrameOk c f := by
  unfold frameCheck
  constructor
  · intro h
    by_cases g1 : f.f2 < 0 ∨ f.f2 ≥ slots c ∨ f.f1 < 0 ∨ f.f1 > 65535
    · rw [if_pos g1] at h; exact absurd h (by decide)
    rw [if_neg g1] at h
    by_cases g2 : f.f0 < 1 ∨ f.f0 > 3 ∨ (f.f2 ≥ c.f0 ∧ f.f0 ≠ 3)
    · rw [if_pos g2] at h; exact absurd h (by decide)
    rw [if_neg g2] at h
    by_cases g3 : payB f = false
    · rw [if_pos g3] at h; exact absurd h (by decide)
    rw [if_neg g3] at h
    by_cases g4 : (f.f4.length : Int) ≠ echoes c f.f0 f.f2
    · rw [if_pos g4] at h; exact absurd h (by decide)
    rw [if_neg g4] at h
    by_cases g5 : f.f4.any (fun i => !emptyB i && !valueB i) = true
    · rw [if_pos g5] at h; exact absurd h (by decide)
    refine ⟨by omega, by omega, by omega, fun h => by omega, by simpa using g3, by omega, fun i hi => ?_⟩
    by_cases h1 : emptyB i = true
    · exact .inl h1
    · by_cases h2 : valueB i = true
      · exact .inr h2
      · exact absurd (List.any_eq_true.2 ⟨i, hi, by simp [h1, h2]⟩) g5
  · intro h
    have ⟨h1, h2, h3, h4, h5, h6, h7⟩ := h
    rw [if_neg (by omega), if_neg (by omega), if_neg (by simp [h5]), if_neg (by omega), if_neg]
    intro hh
    obtain ⟨i, hi, hb⟩ := List.any_eq_true.1 hh
    rcases h7 i hi with e | e <;> simp [e] at hb

theorem read_text {c : Conf} (hc : ConfOk c) {f : Frame} (h : FrameOk c f) : read c (text f) = (f, 0) := by
  have hs := slots_range hc
  have hf := (frameCheck_iff c f).2 h
  have ⟨g1, g2, g3, g4, g5, g6, g7⟩ := h
  have hp : itemRange f.f3 := by
    unfold payB at g5
    by_cases hk : f.f0 = 3
    · rw [if_pos hk] at g5; exact range_of_value g5
    · rw [if_neg hk] at g5; exact range_of_empty g5
  have he : ∀ i ∈ f.f4, itemRange i := fun i hi => (g7 i hi).elim range_of_empty range_of_value
  have hr := rawFrame_body f (by omega) (by omega) (by omega) hp he
  have ho : opened (text f) = (body f, 0) := opened_wrap _ (allBits_body f)
  unfold read
  rw [ho]
  simp only [ne_eq, not_true, if_false]
  unfold readBits
  have k1 : num ((body f).take 2) = f.f0 := congrArg (fun f : Frame => f.f0) hr
  have k2 : num (((body f).drop 18).take 6) = f.f2 := congrArg (fun f : Frame => f.f2) hr
  have hl := body_length f
  rw [if_neg (by omega), k1, k2, hr, hf, if_neg (by omega), if_neg (by simp)]
end Go.Proofs.Ytkelibikjkgohaa.Sp
