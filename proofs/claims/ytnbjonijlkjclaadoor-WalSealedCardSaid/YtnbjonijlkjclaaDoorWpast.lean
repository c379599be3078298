/- A log with its past. -/
import Derived.Test.YtnbjonijlkjclaaDoorLives
import Derived.Test.YtnbjonijlkjclaaDoorTorns
namespace Go.Proofs.YtnbjonijlkjclaaDoor
open Go.Wk Go.Wl Go.Dsk

@[reducible] def pc (lb db : Nat) (g : Lg) (rst : Bool) (r : Value) : List Value := [ptr db 0, ptr lb 0, vI g.n, r, vI g.synced, vB rst]
/-- A log with its past at block b. -/
def Past (b lb db : Nat) (g : Lg) (rst : Bool) : Assn := Exp (fun (_ : Tri) => True) fun x => [Blk b 30 (pc lb db g rst (.slice x.1 x.2.1 x.2.2)), Buf (Rep.slice R8) 34 x.1 x.2.1 x.2.2 g.recs, Lgm lb db g]
section
variable {P : Program} {f : FuncId} {n : Nat} {κ : World} {K : Post} {k : List Item} {ops : Array Oper} {rest : List Oper} {L L1 L' : List Assn} {al : List (Nat × Value)} {b lb db : Nat} {g : Lg} {rst : Bool}
theorem SG.openPast (hp : Pick (Past b lb db g rst) L L1) (h : ∀ xa xn xc, SG P f n κ K k al (Blk b 30 (pc lb db g rst (.slice xa xn xc)) :: Buf (Rep.slice R8) 34 xa xn xc g.recs :: Lgm lb db g :: L1)) : SG P f n κ K k al L := SG.openExp hp fun _ _ => h _ _ _
theorem RL.openPast (hp : Pick (Past b lb db g rst) L L1) (h : ∀ xa xn xc, RL P f n κ K k ops rest al (Blk b 30 (pc lb db g rst (.slice xa xn xc)) :: Buf (Rep.slice R8) 34 xa xn xc g.recs :: Lgm lb db g :: L1)) : RL P f n κ K k ops rest al L := RL.openExp hp fun _ _ => h _ _ _
theorem Past.ent {xa : Option Addr} {xn xc : Nat} (h : Ent L' (Blk b 30 (pc lb db g rst (.slice xa xn xc)) :: Buf (Rep.slice R8) 34 xa xn xc g.recs :: Lgm lb db g :: L)) : Ent L' (Past b lb db g rst :: L) :=
  h.trans (Exp.close (ι := Tri) (p := fun _ => True) (A := fun x => [Blk b 30 (pc lb db g rst (.slice x.1 x.2.1 x.2.2)), Buf (Rep.slice R8) 34 x.1 x.2.1 x.2.2 g.recs, Lgm lb db g]) (xa, xn, xc) trivial)
end
/-- What an act does. -/
structure Acted (f n : Int) (D : Dk) (T M : Nat) (g' : Lg) (D' : Dk) (r' : Bool) : Prop where
  st : Pst f n g' D' (T + 1) (M + n.toNat + 2) r'
  frm : Frm D D' f n
  len : D'.S.length = D.S.length
  calm : D.calm → D'.calm
end Go.Proofs.YtnbjonijlkjclaaDoor
