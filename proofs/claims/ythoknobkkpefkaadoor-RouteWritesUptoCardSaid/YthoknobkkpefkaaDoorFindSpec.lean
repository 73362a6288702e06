/- What a target and a type say, over lists of bytes: no program in sight. -/
import Derived.Test.YthoknobkkpefkaaDoorUrlSpec
namespace Go.Proofs.YthoknobkkpefkaaDoor.Base
open Go.Lib

abbrev Ans : Type := Int × ByteArray × ByteArray × Int × ByteArray × Int
def tScxml : List UInt8 := [115, 99, 120, 109, 108]
def tScxmlUrl : List UInt8 := [104, 116, 116, 112, 58, 47, 47, 119, 119, 119, 46, 119, 51, 46, 111, 114, 103, 47, 84, 82, 47, 115, 99, 120, 109, 108, 47, 35, 83, 67, 88, 77, 76, 69, 118, 101, 110, 116, 80, 114, 111, 99, 101, 115, 115, 111, 114]
def tBasic : List UInt8 := [98, 97, 115, 105, 99, 104, 116, 116, 112]
def tBasicUrl : List UInt8 := [104, 116, 116, 112, 58, 47, 47, 119, 119, 119, 46, 119, 51, 46, 111, 114, 103, 47, 84, 82, 47, 115, 99, 120, 109, 108, 47, 35, 66, 97, 115, 105, 99, 72, 84, 84, 80, 69, 118, 101, 110, 116, 80, 114, 111, 99, 101, 115, 115, 111, 114]
def procP (t : List UInt8) : Int := if t = [] ∨ t = tScxml ∨ t = tScxmlUrl then 1 else if t = tBasic ∨ t = tBasicUrl then 2 else 0
def internalL : List UInt8 := [35, 95, 105, 110, 116, 101, 114, 110, 97, 108]
def parentL : List UInt8 := [35, 95, 112, 97, 114, 101, 110, 116]
def sessL : List UInt8 := [35, 95, 115, 99, 120, 109, 108, 95]
def invL : List UInt8 := [35, 95]
def ans (kind : Int) (id : List UInt8) (err : Int) : Ans := (kind, bl id, bl [], 0, bl [], err)
def internalP (l : List UInt8) : Ans :=
  if l = [] then ans 1 [] 0 else if l = internalL then ans 2 [] 0 else if l = parentL then ans 3 [] 0
  else if sessL <+: l ∧ idB (l.drop 8) = true then ans 4 (l.drop 8) 0
  else if invL <+: l ∧ idB (l.drop 2) = true then ans 5 (l.drop 2) 0 else ans 0 [] 190
def findP (l t : List UInt8) : Ans := if procP t = 1 then internalP l else if procP t = 2 then urlR (urlP l) else ans 0 [] 1
end Go.Proofs.YthoknobkkpefkaaDoor.Base
namespace Go.Proofs.YthoknobkkpefkaaDoor.Base
open Go.Lib
/-- an address written: it must be found as it was -/
def checkW (r : Ans) (kind : Int) (id host : ByteArray) (port : Int) (path : ByteArray) (s : ByteArray) : Option (ByteArray × Int) :=
  if r.2.2.2.2.2 = 0 then (if (!(r.1 == kind) || (!(r.2.1.toList == id.toList) || (!(r.2.2.1.toList == host.toList) || (!(r.2.2.2.1 == port) || (!(r.2.2.2.2.1.toList == path.toList)))))) = true then some (bl [], 190) else some (s, 0)) else some (bl [], 190)
def portS (port : Int) : List UInt8 := if port = 80 then [] else 58 :: itoa port
def writeS (kind : Int) (id host : List UInt8) (port : Int) (path : List UInt8) : Option (List UInt8) :=
  if kind = 1 then some [] else if kind = 2 then some internalL else if kind = 3 then some parentL else if kind = 4 then some (sessL ++ id)
  else if kind = 5 then some (invL ++ id) else if kind = 6 then some (httpL ++ host ++ portS port ++ path) else none
def typS (kind : Int) : List UInt8 := if kind = 6 then tBasic else []
def writeP (kind : Int) (id host : List UInt8) (port : Int) (path : List UInt8) : Option (ByteArray × Int) :=
  match writeS kind id host port path with
  | none => some (bl [], 190)
  | some s => checkW (findP s (typS kind)) kind (bl id) (bl host) port (bl path) (bl s)
theorem decDigits_len : ∀ (n u : Nat), u < 10 ^ (n + 1) → (decDigits u).length ≤ n + 1
  | 0, u, h => by rw [decDigits, dif_pos (by omega)]; simp
  | n + 1, u, h => by
    by_cases h1 : u < 10
    · rw [decDigits, dif_pos h1]; simp
    · rw [decDigits, dif_neg h1, List.length_append]
      have := decDigits_len n (u / 10) (by rw [Nat.pow_succ] at h; omega)
      simp
      omega
theorem itoa_len (n : Int) (h : -9223372036854775808 ≤ n ∧ n ≤ 9223372036854775807) : (itoa n).length ≤ 20 := by
  unfold itoa
  split
  · have := decDigits_len 18 n.natAbs (by omega)
    simp
    omega
  · have := decDigits_len 18 n.toNat (by omega)
    omega
end Go.Proofs.YthoknobkkpefkaaDoor.Base
