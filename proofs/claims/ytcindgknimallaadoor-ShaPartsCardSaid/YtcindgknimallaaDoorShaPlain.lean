/- The sum, in plain Lean. -/
namespace Go.Proofs.YtcindgknimallaaDoor
namespace Sha
def rotr (x : UInt32) (n : Nat) : UInt32 := x <<< UInt32.ofNat (32 - n) ||| x >>> UInt32.ofNat n
def be4 (b : List UInt8) (t : Nat) : UInt32 :=
  (b.getD (4 * t) 0).toUInt32 <<< 24 ||| (b.getD (4 * t + 1) 0).toUInt32 <<< 16 ||| (b.getD (4 * t + 2) 0).toUInt32 <<< 8 ||| (b.getD (4 * t + 3) 0).toUInt32
def low (x : UInt32) : UInt32 := rotr x 7 ^^^ rotr x 18 ^^^ x >>> 3
def high (y : UInt32) : UInt32 := rotr y 17 ^^^ rotr y 19 ^^^ y >>> 10
def nextW (b : List UInt8) (l : List UInt32) (t : Nat) : UInt32 :=
  if t < 16 then be4 b t else high (l.getD (t - 2) 0) + l.getD (t - 7) 0 + low (l.getD (t - 15) 0) + l.getD (t - 16) 0
def sched (b : List UInt8) : Nat → List UInt32
  | 0 => []
  | t + 1 => sched b t ++ [nextW b (sched b t) t]
theorem sched_length (b : List UInt8) : ∀ t, (sched b t).length = t
  | 0 => rfl
  | t + 1 => by simp [sched, sched_length b t]
def first : List UInt32 := [0x6a09e667, 0xbb67ae85, 0x3c6ef372, 0xa54ff53a, 0x510e527f, 0x9b05688c, 0x1f83d9ab, 0x5be0cd19]
def words : List UInt32 := [0x428a2f98, 0x71374491, 0xb5c0fbcf, 0xe9b5dba5, 0x3956c25b, 0x59f111f1, 0x923f82a4, 0xab1c5ed5, 0xd807aa98, 0x12835b01, 0x243185be, 0x550c7dc3, 0x72be5d74, 0x80deb1fe, 0x9bdc06a7, 0xc19bf174, 0xe49b69c1, 0xefbe4786, 0x0fc19dc6, 0x240ca1cc, 0x2de92c6f, 0x4a7484aa, 0x5cb0a9dc, 0x76f988da, 0x983e5152, 0xa831c66d, 0xb00327c8, 0xbf597fc7, 0xc6e00bf3, 0xd5a79147, 0x06ca6351, 0x14292967, 0x27b70a85, 0x2e1b2138, 0x4d2c6dfc, 0x53380d13, 0x650a7354, 0x766a0abb, 0x81c2c92e, 0x92722c85, 0xa2bfe8a1, 0xa81a664b, 0xc24b8b70, 0xc76c51a3, 0xd192e819, 0xd6990624, 0xf40e3585, 0x106aa070, 0x19a4c116, 0x1e376c08, 0x2748774c, 0x34b0bcb5, 0x391c0cb3, 0x4ed8aa4a, 0x5b9cca4f, 0x682e6ff3, 0x748f82ee, 0x78a5636f, 0x84c87814, 0x8cc70208, 0x90befffa, 0xa4506ceb, 0xbef9a3f7, 0xc67178f2]
def up (v : List UInt32) (k w : UInt32) : UInt32 :=
  v.getD 7 0 + (rotr (v.getD 4 0) 6 ^^^ rotr (v.getD 4 0) 11 ^^^ rotr (v.getD 4 0) 25) + (v.getD 4 0 &&& v.getD 5 0 ^^^ ~~~(v.getD 4 0) &&& v.getD 6 0) + k + w
def two (v : List UInt32) : UInt32 := rotr (v.getD 0 0) 2 ^^^ rotr (v.getD 0 0) 13 ^^^ rotr (v.getD 0 0) 22
def most (v : List UInt32) : UInt32 := v.getD 0 0 &&& v.getD 1 0 ^^^ v.getD 0 0 &&& v.getD 2 0 ^^^ v.getD 1 0 &&& v.getD 2 0
def round (v : List UInt32) (k w : UInt32) : List UInt32 :=
  [up v k w + two v + most v, v.getD 0 0, v.getD 1 0, v.getD 2 0, v.getD 3 0 + up v k w, v.getD 4 0, v.getD 5 0, v.getD 6 0]
/-- The state behind t rounds. -/
def turned (s ws : List UInt32) : Nat → List UInt32
  | 0 => s
  | t + 1 => round (turned s ws t) (words.getD t 0) (ws.getD t 0)
theorem turned_length (s ws : List UInt32) (hs : s.length = 8) : ∀ t, (turned s ws t).length = 8
  | 0 => hs
  | _ + 1 => rfl
def added (v s : List UInt32) : List UInt32 := List.zipWith (· + ·) v s
def rounds (s : List UInt32) (b : List UInt8) : List UInt32 := added (turned s (sched b 64) 64) s
theorem rounds_length (s : List UInt32) (b : List UInt8) (hs : s.length = 8) : (rounds s b).length = 8 := by
  simp [rounds, added, turned_length _ _ hs, hs]
/-- Whole blocks of 64 bytes, one behind the other. -/
def blocks (s : List UInt32) (b : List UInt8) : Nat → List UInt32
  | 0 => s
  | n + 1 => blocks (rounds s (b.take 64)) (b.drop 64) n
theorem blocks_length (n : Nat) : ∀ (s : List UInt32) (b : List UInt8), s.length = 8 → (blocks s b n).length = 8 := by
  induction n with
  | zero => exact fun s b h => h
  | succ n ih => exact fun s b h => ih _ _ (rounds_length _ _ h)
def be64 (n : Nat) : List UInt8 := (List.range 8).map fun i => UInt8.ofNat (n / 2 ^ (56 - 8 * i))
/-- What is added behind n bytes. -/
def tail (n : Nat) : List UInt8 := 128 :: (List.replicate ((119 - n % 64) % 64) 0 ++ be64 (8 * n))
def out (s : List UInt32) : List UInt8 := s.flatMap fun (w : UInt32) => [(w >>> 24).toUInt8, (w >>> 16).toUInt8, (w >>> 8).toUInt8, w.toUInt8]
def sum (b : List UInt8) : List UInt8 := out (blocks first (b ++ tail b.length) ((b ++ tail b.length).length / 64))
end Sha
end Go.Proofs.YtcindgknimallaaDoor
