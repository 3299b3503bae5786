/- Filters of keys, plain: the places of a key, bits put and tested. -/
import Derived.Test.YtbimboibllboeaaDoorShaSum
import Derived.Test.YtbimboibllboeaaDoorShaWord
namespace Go.Proofs.YtbimboibllboeaaDoor.Blm
open Go Go.RowKit Go.Proofs.YtbimboibllboeaaDoor.Eng Go.Proofs.YtbimboibllboeaaDoor.Sha
set_option linter.unusedVariables false
def place (key : List UInt8) (z i : Nat) : Nat := (wordAt (digest key) i).toNat % (8 * z)
def places (key : List UInt8) (z h : Nat) : List Nat := (List.range h).map (place key z)
theorem place_lt (key : List UInt8) {z : Nat} (hz : 0 < z) (i : Nat) : place key z i < 8 * z := Nat.mod_lt _ (by omega)
theorem place_len (key : List UInt8) (z h : Nat) : (places key z h).length = h := by simp [places]
theorem place_get (key : List UInt8) (z : Nat) {h i : Nat} (hi : i < h) : (places key z h)[i]? = some (place key z i) := by simp [places, hi]
def putB (b : List UInt8) (n : Nat) : List UInt8 := b.set (n / 8) (b.getD (n / 8) 0 ||| (1 <<< UInt8.ofNat (n % 8)))
def bit8 (c : UInt8) (k : Nat) : Bool := !decide ((c >>> UInt8.ofNat k) &&& 1 = 0)
def tstB (b : List UInt8) (n : Nat) : Bool := bit8 (b.getD (n / 8) 0) (n % 8)
def putAll (b : List UInt8) (ns : List Nat) : List UInt8 := ns.foldl putB b
def hasB (h : Nat) (b key : List UInt8) : Bool := (places key b.length h).all (tstB b)
def makeB (h z : Nat) (keys : List (List UInt8)) : List UInt8 := keys.foldl (fun b key => putAll b (places key z h)) (List.replicate z 0)
theorem putB_len (b : List UInt8) (n : Nat) : (putB b n).length = b.length := by simp [putB]
theorem putAll_len (ns : List Nat) : ∀ (b : List UInt8), (putAll b ns).length = b.length := by
  induction ns with
  | nil => intro b; rfl
  | cons n ns ih => intro b; show (putAll (putB b n) ns).length = _; rw [ih, putB_len]
theorem makeB_len (h z : Nat) (keys : List (List UInt8)) : (makeB h z keys).length = z := by
  unfold makeB
  suffices ∀ b : List UInt8, (keys.foldl (fun b key => putAll b (places key z h)) b).length = b.length by rw [this]; simp
  induction keys with
  | nil => intro b; rfl
  | cons k ks ih => intro b; rw [List.foldl_cons, ih, putAll_len]
/-- Behind so many places. -/
def putK (b key : List UInt8) (z h k : Nat) : List UInt8 := putAll b ((places key z h).take k)
theorem putK_zero (b key : List UInt8) (z h : Nat) : putK b key z h 0 = b := rfl
theorem putK_all (b key : List UInt8) (z h : Nat) : putK b key z h h = putAll b (places key z h) := by
  unfold putK; rw [List.take_of_length_le (by rw [place_len]; omega)]
theorem putK_len (b key : List UInt8) (z h k : Nat) : (putK b key z h k).length = b.length := putAll_len _ _
theorem putK_next (b key : List UInt8) (z : Nat) {h k : Nat} (hk : k < h) : putK b key z h (k + 1) = putB (putK b key z h k) (place key z k) := by
  unfold putK putAll
  rw [List.take_add_one, place_get key z hk, List.foldl_append]; rfl
def makeK (h z : Nat) (keys : List (List UInt8)) (i : Nat) : List UInt8 := makeB h z (keys.take i)
theorem makeK_zero (h z : Nat) (keys : List (List UInt8)) : makeK h z keys 0 = List.replicate z 0 := rfl
theorem makeK_next (h z : Nat) {keys : List (List UInt8)} {i : Nat} {key : List UInt8} (hi : keys[i]? = some key) : makeK h z keys (i + 1) = putAll (makeK h z keys i) (places key z h) := by
  unfold makeK makeB
  rw [List.take_add_one, hi, List.foldl_append]; rfl
theorem set_u8 (l : List UInt8) (i : Nat) (v : UInt8) : (l.map u8V).set i (u8V v) = (l.set i v).map u8V := by
  rw [List.map_set]
def wordsN (per n : Nat) : Nat := max 1 ((n * per + 63) / 64)
def hashN (per : Nat) : Nat := min (max 1 (per * 7 / 10)) 8
def makeE (per : Int) (n : Nat) : Int := if per < 1 ∨ per > 32 then 1 else if n > 65536 then 6 else 0
end Go.Proofs.YtbimboibllboeaaDoor.Blm
