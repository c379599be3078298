/- The disk. -/
import Derived.Test.YtcbloadpffjkiaaDoorFacts
import Derived.Test.YtcbloadpffjkiaaDoorZPlw
namespace Go.Proofs.YtcbloadpffjkiaaDoor
open Go.Wk Go.Dsk

/-- A disk at block b. -/
def Dsk (b : Nat) (D : Dk) : Assn := Exp (fun (_ : Addr × Nat × Nat) => True) fun x => [Blk b 95 [.slice (some x.1) D.S.length x.2.1, .map (some x.2.2), .bool D.off, vI D.fuse], Buf (RArr8 64) 130 (some x.1) D.S.length x.2.1 (D.S.map hd), Pend 130 x.2.2 D.S]
section
variable {P : Program} {f : FuncId} {n : Nat} {κ : World} {K : Post} {k : List Item} {L L1 L' : List Assn} {al : List (Nat × Value)} {b : Nat} {D : Dk}
theorem SG.openDsk (hp : Pick (Dsk b D) L L1) (h : ∀ ad c bm, SG P f n κ K k al (Blk b 95 [.slice (some ad) D.S.length c, .map (some bm), .bool D.off, vI D.fuse] :: Buf (RArr8 64) 130 (some ad) D.S.length c (D.S.map hd) :: Pend 130 bm D.S :: L1)) : SG P f n κ K k al L := SG.openExp hp fun x _ => h x.1 x.2.1 x.2.2
theorem Dsk.ent {ad : Addr} {c bm : Nat} (h : Ent L' (Blk b 95 [.slice (some ad) D.S.length c, .map (some bm), .bool D.off, vI D.fuse] :: Buf (RArr8 64) 130 (some ad) D.S.length c (D.S.map hd) :: Pend 130 bm D.S :: L)) : Ent L' (Dsk b D :: L) :=
  h.trans (Exp.close (ι := Addr × Nat × Nat) (p := fun _ => True) (A := fun x => [Blk b 95 [.slice (some x.1) D.S.length x.2.1, .map (some x.2.2), .bool D.off, vI D.fuse], Buf (RArr8 64) 130 (some x.1) D.S.length x.2.1 (D.S.map hd), Pend 130 x.2.2 D.S]) (ad, c, bm) trivial)
end

set_option maxRecDepth 100000 in
theorem dLen_ok {κ : World} {L : List Assn} {L1 : List Assn} {b : Nat} {D : Dk} {m0 : Nat} (_ : D.ok m0) (hp : Pick (Dsk b D) L L1) :
    Ctr Tryd.prog 85 #[ptr b 0] κ L (fun v M => v = vI D.S.length ∧ M = Dsk b D :: L1) := by
 refine Ctr.enter (vs := [ptr b 0]) (m := 8) Tryd.func85 rfl rfl rfl ?_
 refine SG.openDsk hp fun ad c bm => ?_
 refine SG.seq ?_
 refine SG.region ?_
 refine RL.val (Wanted.free rfl) (V.assign rfl rfl) rfl ?_
 refine RL.nil ?_
 refine SG.seq ?_
 refine SG.region ?_
 refine RL.val (Wanted.free rfl) (V.move rfl rfl) rfl ?_
 refine RL.val (Wanted.free rfl) (V.nilCheck rfl rfl) rfl ?_
 refine RL.val (Wanted.free rfl) (V.fieldAddr rfl rfl fo95_0) rfl ?_
 refine RL.val (Wanted.free rfl) (V.load rfl on92 rfl pickX rfl) rfl ?_
 refine RL.val (Wanted.free rfl) (V.len rfl rfl el92.under rfl) rfl ?_
 refine RL.val (Wanted.free rfl) (V.assign rfl rfl) rfl ?_
 refine RL.nil ?_
 refine SG.retE (Ret.r1 Tryd.func85 rfl (.tmp rfl)) ?_ ⟨rfl, rfl⟩
 refine Dsk.ent (ad := ad) (c := c) (bm := bm) ?_
 exact entX

set_option maxRecDepth 100000 in
theorem dOn_ok {κ : World} {L : List Assn} {L1 : List Assn} {b : Nat} {D : Dk} {m0 : Nat} (_ : D.ok m0) (hp : Pick (Dsk b D) L L1) :
    Ctr Tryd.prog 35 #[ptr b 0] κ L (fun v M => v = vB (!D.off) ∧ M = Dsk b D :: L1) := by
 refine Ctr.enter (vs := [ptr b 0]) (m := 8) Tryd.func35 rfl rfl rfl ?_
 refine SG.openDsk hp fun ad c bm => ?_
 refine SG.seq ?_
 refine SG.region ?_
 refine RL.val (Wanted.free rfl) (V.assign rfl rfl) rfl ?_
 refine RL.nil ?_
 refine SG.seq ?_
 refine SG.region ?_
 refine RL.val (Wanted.free rfl) (V.move rfl rfl) rfl ?_
 refine RL.val (Wanted.free rfl) (V.nilCheck rfl rfl) rfl ?_
 refine RL.val (Wanted.free rfl) (V.fieldAddr rfl rfl fo95_2) rfl ?_
 refine RL.val (Wanted.free rfl) (V.load rfl on4 rfl pickX rfl) rfl ?_
 refine RL.val (Wanted.free rfl) (V.not rfl rfl) rfl ?_
 refine RL.val (Wanted.free rfl) (V.assign rfl rfl) rfl ?_
 refine RL.nil ?_
 refine SG.retE (Ret.r1 Tryd.func35 rfl (.tmp rfl)) ?_ ⟨rfl, rfl⟩
 refine Dsk.ent (ad := ad) (c := c) (bm := bm) ?_
 exact entX

set_option maxRecDepth 100000 in
theorem dHas_ok {κ : World} {L : List Assn} {L1 : List Assn} {b : Nat} {D : Dk} {m0 : Nat} (hD : D.ok m0) (hp : Pick (Dsk b D) L L1) (k : Int) :
    Ctr Tryd.prog 86 #[ptr b 0, vI k] κ L (fun v M => v = vI (D.errOf k) ∧ M = Dsk b D :: L1) := by
 refine Ctr.enter (vs := [ptr b 0, vI k]) (m := 20) Tryd.func86 rfl rfl rfl ?_
 refine SG.openDsk hp fun ad c bm => ?_
 have hn := hD.len
 refine SG.seq ?_
 refine SG.region ?_
 refine RL.val (Wanted.free rfl) (V.assign rfl rfl) rfl ?_
 refine RL.nil ?_
 refine SG.seq ?_
 refine SG.block ?_
 refine SG.seq ?_
 refine SG.seq ?_
 refine SG.region ?_
 refine RL.val (Wanted.free rfl) (V.move rfl rfl) rfl ?_
 refine RL.cmp (Wanted.free rfl) (V.bin rfl rfl rfl B.lss) rfl (fun h3 => ?_) (fun h3 => ?_)
 ·
  refine RL.val (Wanted.free rfl) (V.assign rfl rfl) rfl ?_
  refine RL.nil ?_
  refine SG.cond_true rfl ?_
  refine SG.skip ?_
  refine SG.cond_true rfl ?_
  refine SG.seq ?_
  refine SG.region ?_
  refine RL.val (Wanted.free rfl) (V.assign rfl rfl) rfl ?_
  refine RL.nil ?_
  refine SG.retE (Ret.r1 Tryd.func86 rfl (.tmp rfl)) ?_ ⟨by unfold Dk.errOf; first | (rw [if_pos (by omega)]) | (rw [if_neg (by omega), if_pos (by assumption)]) | (rw [if_neg (by omega), if_neg (by simp_all)]), rfl⟩
  refine Dsk.ent (ad := ad) (c := c) (bm := bm) ?_
  exact entX
 ·
  refine RL.val (Wanted.free rfl) (V.assign rfl rfl) rfl ?_
  refine RL.nil ?_
  refine SG.cond_false rfl ?_
  refine SG.region ?_
  refine RL.val (Wanted.free rfl) (V.move rfl rfl) rfl ?_
  refine RL.val (Wanted.free rfl) (V.move rfl rfl) rfl ?_
  refine RL.val (Wanted.free rfl) (V.nilCheck rfl rfl) rfl ?_
  refine RL.val (Wanted.free rfl) (V.fieldAddr rfl rfl fo95_0) rfl ?_
  refine RL.val (Wanted.free rfl) (V.load rfl on92 rfl pickX rfl) rfl ?_
  refine RL.val (Wanted.free rfl) (V.len rfl rfl el92.under rfl) rfl ?_
  refine RL.cmp (Wanted.free rfl) (V.bin rfl rfl rfl B.geq) rfl (fun h13 => ?_) (fun h13 => ?_)
  ·
   refine RL.val (Wanted.free rfl) (V.assign rfl rfl) rfl ?_
   refine RL.nil ?_
   refine SG.cond_true rfl ?_
   refine SG.seq ?_
   refine SG.region ?_
   refine RL.val (Wanted.free rfl) (V.assign rfl rfl) rfl ?_
   refine RL.nil ?_
   refine SG.retE (Ret.r1 Tryd.func86 rfl (.tmp rfl)) ?_ ⟨by unfold Dk.errOf; first | (rw [if_pos (by omega)]) | (rw [if_neg (by omega), if_pos (by assumption)]) | (rw [if_neg (by omega), if_neg (by simp_all)]), rfl⟩
   refine Dsk.ent (ad := ad) (c := c) (bm := bm) ?_
   exact entX
  ·
   refine RL.val (Wanted.free rfl) (V.assign rfl rfl) rfl ?_
   refine RL.nil ?_
   refine SG.cond_false rfl ?_
   refine SG.seq ?_
   refine SG.region ?_
   refine RL.val (Wanted.free rfl) (V.move rfl rfl) rfl ?_
   refine RL.val (Wanted.free rfl) (V.nilCheck rfl rfl) rfl ?_
   refine RL.val (Wanted.free rfl) (V.fieldAddr rfl rfl fo95_2) rfl ?_
   refine RL.val (Wanted.free rfl) (V.load rfl on4 rfl pickX rfl) rfl ?_
   refine RL.val (Wanted.free rfl) (V.assign rfl rfl) rfl ?_
   refine RL.nil ?_
   refine SG.cond rfl (fun h22 => ?_) (fun h22 => ?_)
   ·
    refine SG.seq ?_
    refine SG.region ?_
    refine RL.val (Wanted.free rfl) (V.assign rfl rfl) rfl ?_
    refine RL.nil ?_
    refine SG.retE (Ret.r1 Tryd.func86 rfl (.tmp rfl)) ?_ ⟨by unfold Dk.errOf; first | (rw [if_pos (by omega)]) | (rw [if_neg (by omega), if_pos (by assumption)]) | (rw [if_neg (by omega), if_neg (by simp_all)]), rfl⟩
    refine Dsk.ent (ad := ad) (c := c) (bm := bm) ?_
    exact entX
   ·
    refine SG.skip ?_
    refine SG.inBlock ?_
    refine SG.seq ?_
    refine SG.region ?_
    refine RL.val (Wanted.free rfl) (V.assign rfl rfl) rfl ?_
    refine RL.nil ?_
    refine SG.retE (Ret.r1 Tryd.func86 rfl (.tmp rfl)) ?_ ⟨by unfold Dk.errOf; first | (rw [if_pos (by omega)]) | (rw [if_neg (by omega), if_pos (by assumption)]) | (rw [if_neg (by omega), if_neg (by simp_all)]), rfl⟩
    refine Dsk.ent (ad := ad) (c := c) (bm := bm) ?_
    exact entX

set_option maxRecDepth 100000 in
theorem dSpent_ok {κ : World} {L : List Assn} {L1 : List Assn} {b : Nat} {D : Dk} {m0 : Nat} (hD : D.ok m0) (hp : Pick (Dsk b D) L L1) :
    Ctr Tryd.prog 87 #[ptr b 0] κ L (fun v M => v = .tuple #[] ∧ M = Dsk b D.spend :: L1) := by
 refine Ctr.enter (vs := [ptr b 0]) (m := 22) Tryd.func87 rfl rfl rfl ?_
 refine SG.openDsk hp fun ad c bm => ?_
 have hf := hD.fuse
 refine SG.seq ?_
 refine SG.region ?_
 refine RL.val (Wanted.free rfl) (V.move rfl rfl) rfl ?_
 refine RL.val (Wanted.free rfl) (V.nilCheck rfl rfl) rfl ?_
 refine RL.val (Wanted.free rfl) (V.fieldAddr rfl rfl fo95_3) rfl ?_
 refine RL.val (Wanted.free rfl) (V.load rfl on3 rfl pickX rfl) rfl ?_
 refine RL.cmp (Wanted.free rfl) (V.bin rfl rfl rfl B.gtr) rfl (fun h5 => ?_) (fun h5 => ?_)
 ·
  have hsp : D.spend = { D with fuse := D.fuse - 1, off := decide (D.fuse - 1 = 0) } := if_pos (by assumption)
  rw [hsp]
  refine RL.nil ?_
  refine SG.cond_true rfl ?_
  refine SG.seq ?_
  refine SG.region ?_
  refine RL.val (Wanted.free rfl) (V.move rfl rfl) rfl ?_
  refine RL.val (Wanted.free rfl) (V.nilCheck rfl rfl) rfl ?_
  refine RL.val (Wanted.free rfl) (V.fieldAddr rfl rfl fo95_3) rfl ?_
  refine RL.val (Wanted.free rfl) (V.load rfl on3 rfl pickX rfl) rfl ?_
  refine RL.val (Wanted.free rfl) (V.bin rfl rfl rfl (B.subI (by omega) (by omega))) rfl ?_
  refine RL.val (Wanted.free rfl) (V.nilCheck rfl rfl) rfl ?_
  refine RL.val (Wanted.free rfl) (V.fieldAddr rfl rfl fo95_3) rfl ?_
  refine RL.eff (Wanted.free rfl) (E.store1 rfl rfl rfl rfl rfl sz3 pickX rfl) rfl ?_
  rintro _ _ rfl
  refine RL.nil ?_
  refine SG.region ?_
  refine RL.val (Wanted.free rfl) (V.move rfl rfl) rfl ?_
  refine RL.val (Wanted.free rfl) (V.move rfl rfl) rfl ?_
  refine RL.val (Wanted.free rfl) (V.nilCheck rfl rfl) rfl ?_
  refine RL.val (Wanted.free rfl) (V.fieldAddr rfl rfl fo95_3) rfl ?_
  refine RL.val (Wanted.free rfl) (V.load rfl on3 rfl pickX rfl) rfl ?_
  refine RL.cmp (Wanted.free rfl) (V.bin rfl rfl rfl B.eql) rfl (fun h19 => ?_) (fun h19 => ?_)
  ·
   refine RL.val (Wanted.free rfl) (V.nilCheck rfl rfl) rfl ?_
   refine RL.val (Wanted.free rfl) (V.fieldAddr rfl rfl fo95_2) rfl ?_
   refine RL.eff (Wanted.free rfl) (E.store1 rfl rfl rfl rfl rfl sz4 pickX rfl) rfl ?_
   rintro _ _ rfl
   refine RL.nil ?_
   refine SG.doneE (Ret.none Tryd.func87 rfl) ?_ ⟨rfl, rfl⟩
   refine Dsk.ent (ad := ad) (c := c) (bm := bm) ?_
   try simp only [*, decide_true]
   exact entX
  ·
   refine RL.val (Wanted.free rfl) (V.nilCheck rfl rfl) rfl ?_
   refine RL.val (Wanted.free rfl) (V.fieldAddr rfl rfl fo95_2) rfl ?_
   refine RL.eff (Wanted.free rfl) (E.store1 rfl rfl rfl rfl rfl sz4 pickX rfl) rfl ?_
   rintro _ _ rfl
   refine RL.nil ?_
   refine SG.doneE (Ret.none Tryd.func87 rfl) ?_ ⟨rfl, rfl⟩
   refine Dsk.ent (ad := ad) (c := c) (bm := bm) ?_
   try simp only [*, decide_false]
   exact entX
 ·
  have hsp : D.spend = D := if_neg (by assumption)
  rw [hsp]
  refine RL.nil ?_
  refine SG.cond_false rfl ?_
  refine SG.skip ?_
  refine SG.doneE (Ret.none Tryd.func87 rfl) ?_ ⟨rfl, rfl⟩
  refine Dsk.ent (ad := ad) (c := c) (bm := bm) ?_
  try simp only [*, decide_false]
  exact entX

set_option maxRecDepth 100000 in
theorem dFuse_ok {κ : World} {L : List Assn} {L1 : List Assn} {b : Nat} {D : Dk} {m0 : Nat} (_ : D.ok m0) (hp : Pick (Dsk b D) L L1) (n : Int) (_ : -9223372036854775808 ≤ n) (_ : n ≤ 9223372036854775807) :
    Ctr Tryd.prog 34 #[ptr b 0, vI n] κ L (fun v M => v = .tuple #[] ∧ M = Dsk b (D.blow n) :: L1) := by
 refine Ctr.enter (vs := [ptr b 0, vI n]) (m := 19) Tryd.func34 rfl rfl rfl ?_
 refine SG.openDsk hp fun ad c bm => ?_
 refine SG.seq ?_
 refine SG.region ?_
 refine RL.val (Wanted.free rfl) (V.move rfl rfl) rfl ?_
 refine RL.val (Wanted.free rfl) (V.nilCheck rfl rfl) rfl ?_
 refine RL.val (Wanted.free rfl) (V.fieldAddr rfl rfl fo95_2) rfl ?_
 refine RL.val (Wanted.free rfl) (V.load rfl on4 rfl pickX rfl) rfl ?_
 refine RL.val (Wanted.free rfl) (V.not rfl rfl) rfl ?_
 refine RL.nil ?_
 refine SG.cond rfl (fun h5 => ?_) (fun h5 => ?_)
 ·
  have hb : D.blow n = { D with fuse := if n < 0 then 0 else n, off := decide (n = 0) } := by unfold Dk.blow; rw [if_neg (by simp_all)]
  rw [hb]
  refine SG.region ?_
  refine RL.val (Wanted.free rfl) (V.move rfl rfl) rfl ?_
  refine RL.val (Wanted.free rfl) (V.move rfl rfl) rfl ?_
  refine RL.val (Wanted.free rfl) (V.move rfl rfl) rfl ?_
  refine RL.val (Wanted.free rfl) (V.max rfl rfl rfl rfl) rfl ?_
  refine RL.val (Wanted.free rfl) (V.move rfl rfl) rfl ?_
  refine RL.cmp (Wanted.free rfl) (V.bin rfl rfl rfl B.eql) rfl (fun h11 => ?_) (fun h11 => ?_)
  ·
   refine RL.val (Wanted.free rfl) (V.nilCheck rfl rfl) rfl ?_
   refine RL.val (Wanted.free rfl) (V.fieldAddr rfl rfl fo95_3) rfl ?_
   refine RL.eff (Wanted.free rfl) (E.store1 rfl rfl rfl rfl rfl sz3 pickX rfl) rfl ?_
   rintro _ _ rfl
   refine RL.val (Wanted.free rfl) (V.nilCheck rfl rfl) rfl ?_
   refine RL.val (Wanted.free rfl) (V.fieldAddr rfl rfl fo95_2) rfl ?_
   refine RL.eff (Wanted.free rfl) (E.store1 rfl rfl rfl rfl rfl sz4 pickX rfl) rfl ?_
   rintro _ _ rfl
   refine RL.nil ?_
   refine SG.doneE (Ret.none Tryd.func34 rfl) ?_ ⟨rfl, rfl⟩
   refine Dsk.ent (ad := ad) (c := c) (bm := bm) ?_
   try simp only [*, decide_true]
   exact entX
  ·
   refine RL.val (Wanted.free rfl) (V.nilCheck rfl rfl) rfl ?_
   refine RL.val (Wanted.free rfl) (V.fieldAddr rfl rfl fo95_3) rfl ?_
   refine RL.eff (Wanted.free rfl) (E.store1 rfl rfl rfl rfl rfl sz3 pickX rfl) rfl ?_
   rintro _ _ rfl
   refine RL.val (Wanted.free rfl) (V.nilCheck rfl rfl) rfl ?_
   refine RL.val (Wanted.free rfl) (V.fieldAddr rfl rfl fo95_2) rfl ?_
   refine RL.eff (Wanted.free rfl) (E.store1 rfl rfl rfl rfl rfl sz4 pickX rfl) rfl ?_
   rintro _ _ rfl
   refine RL.nil ?_
   refine SG.doneE (Ret.none Tryd.func34 rfl) ?_ ⟨rfl, rfl⟩
   refine Dsk.ent (ad := ad) (c := c) (bm := bm) ?_
   try simp only [*, decide_false]
   exact entX
 ·
  have hb : D.blow n = D := by unfold Dk.blow; rw [if_pos (by simp_all)]
  rw [hb]
  refine SG.skip ?_
  refine SG.doneE (Ret.none Tryd.func34 rfl) ?_ ⟨rfl, rfl⟩
  refine Dsk.ent (ad := ad) (c := c) (bm := bm) ?_
  try simp only [*, decide_false]
  exact entX

set_option maxRecDepth 100000 in
theorem dNew_err {κ : World} {L : List Assn} {n : Int} (h : n < 1 ∨ 4096 < n) :
    Ctr Tryd.prog 32 #[vI n] κ L (fun v M => v = .tuple #[.pointer none, vI 5] ∧ M = L) := by
 refine Ctr.enter (vs := [vI n]) (m := 15) Tryd.func32 rfl rfl rfl ?_
 refine SG.seq ?_
 refine SG.region ?_
 refine RL.val (Wanted.free rfl) (V.assign rfl rfl) rfl ?_
 refine RL.val (Wanted.free rfl) (V.assign rfl rfl) rfl ?_
 refine RL.nil ?_
 refine SG.seq ?_
 refine SG.seq ?_
 refine SG.region ?_
 refine RL.val (Wanted.free rfl) (V.move rfl rfl) rfl ?_
 refine RL.cmp (Wanted.free rfl) (V.bin rfl rfl rfl B.lss) rfl (fun h4 => ?_) (fun h4 => ?_)
 ·
  refine RL.val (Wanted.free rfl) (V.move rfl rfl) rfl ?_
  refine RL.skip (Wanted.no rfl rfl rfl rfl rfl) rfl ?_
  refine RL.skip (Wanted.no rfl rfl rfl rfl rfl) rfl ?_
  refine RL.val (Wanted.free rfl) (V.pick_true rfl rfl rfl) rfl ?_
  refine RL.nil ?_
  refine SG.cond_true rfl ?_
  refine SG.seq ?_
  refine SG.region ?_
  refine RL.val (Wanted.free rfl) (V.assign rfl rfl) rfl ?_
  refine RL.val (Wanted.free rfl) (V.assign rfl rfl) rfl ?_
  refine RL.nil ?_
  refine SG.retE (Ret.r2 Tryd.func32 rfl (.tmp rfl) (.tmp rfl)) ?_ ⟨rfl, rfl⟩
  exact entX
 ·
  refine RL.val (Wanted.free rfl) (V.move rfl rfl) rfl ?_
  refine RL.val (Wanted.yes rfl rfl rfl rfl) (V.move rfl rfl) rfl ?_
  refine RL.cmpT (Wanted.yes rfl rfl rfl rfl) (V.bin rfl rfl rfl B.gtr) rfl (by omega) ?_
  refine RL.val (Wanted.free rfl) (V.pick_false rfl rfl rfl) rfl ?_
  refine RL.nil ?_
  refine SG.cond_true rfl ?_
  refine SG.seq ?_
  refine SG.region ?_
  refine RL.val (Wanted.free rfl) (V.assign rfl rfl) rfl ?_
  refine RL.val (Wanted.free rfl) (V.assign rfl rfl) rfl ?_
  refine RL.nil ?_
  refine SG.retE (Ret.r2 Tryd.func32 rfl (.tmp rfl) (.tmp rfl)) ?_ ⟨rfl, rfl⟩
  exact entX

set_option maxRecDepth 100000 in
theorem dNew_ok {κ : World} {L : List Assn} {n : Nat} (h1 : 1 ≤ n) (h2 : n ≤ 4096) :
    Ctr Tryd.prog 32 #[vI n] κ L (fun v M => ∃ b, v = .tuple #[ptr b 0, vI 0] ∧ M = Dsk b (fresh n) :: L) := by
 refine Ctr.enter (vs := [vI n]) (m := 15) Tryd.func32 rfl rfl rfl ?_
 refine SG.seq ?_
 refine SG.region ?_
 refine RL.val (Wanted.free rfl) (V.assign rfl rfl) rfl ?_
 refine RL.val (Wanted.free rfl) (V.assign rfl rfl) rfl ?_
 refine RL.nil ?_
 refine SG.seq ?_
 refine SG.seq ?_
 refine SG.region ?_
 refine RL.val (Wanted.free rfl) (V.move rfl rfl) rfl ?_
 refine RL.cmpF (Wanted.free rfl) (V.bin rfl rfl rfl B.lss) rfl (by omega) ?_
 refine RL.val (Wanted.free rfl) (V.move rfl rfl) rfl ?_
 refine RL.val (Wanted.yes rfl rfl rfl rfl) (V.move rfl rfl) rfl ?_
 refine RL.cmpF (Wanted.yes rfl rfl rfl rfl) (V.bin rfl rfl rfl B.gtr) rfl (by omega) ?_
 refine RL.val (Wanted.free rfl) (V.pick_false rfl rfl rfl) rfl ?_
 refine RL.nil ?_
 refine SG.cond_false rfl ?_
 refine SG.skip ?_
 refine SG.seq ?_
 refine SG.region ?_
 refine RL.val (Wanted.free rfl) (V.move rfl rfl) rfl ?_
 refine RL.eff (Wanted.free rfl) (E.make (T := RArr8 64) (m := n) (z0 := .int .u8 0) (x0 := List.replicate 64 0) rfl el92 ze130 rfl rfl rfl (by omega) (by omega) (fun _ => ⟨by show List.replicate 64 _ = List.map v8 (List.replicate 64 0); rw [List.map_replicate]; rfl, by simp⟩)) rfl ?_
 rintro _ _ ⟨b11, rfl, rfl⟩
 refine RL.eff (Wanted.free rfl) (E.makeMap rfl rfl) rfl ?_
 rintro _ _ ⟨b12, rfl, rfl⟩
 refine RL.val (Wanted.free rfl) (V.buildS [(0, _), (1, _)] rfl bs95 (by exact ⟨rfl, ⟨_, rfl, rfl⟩, ⟨rfl, ⟨_, rfl, rfl⟩, trivial⟩⟩) rfl) rfl ?_
 refine RL.eff (Wanted.free rfl) (E.box _ rfl rfl rfl) rfl ?_
 rintro _ _ ⟨b10, rfl, rfl⟩
 refine RL.val (Wanted.free rfl) (V.assign rfl rfl) rfl ?_
 refine RL.val (Wanted.free rfl) (V.assign rfl rfl) rfl ?_
 refine RL.nil ?_
 have e1 : (fresh n).S.length = n := by simp [fresh]
 have e2 : (fresh n).S.map hd = List.replicate n (List.replicate 64 0) := by simp [fresh, hd]
 refine SG.retE (Ret.r2 Tryd.func32 rfl (.tmp rfl) (.tmp rfl)) ?_ ⟨_, rfl, rfl⟩
 refine Dsk.ent (ad := ⟨b11, 0, none⟩) (c := n) (bm := b12) ?_
 rw [e1, e2]
 refine Ent.cons pickX ?_
 refine Ent.cons pickX ?_
 refine Pend.ent (Pnd.none fun l hl => by rw [List.eq_of_mem_replicate hl]; rfl) ?_
 exact Ent.cons pickX (Ent.trans (by repeat (first | exact Ent.refl _ | (apply Ent.cons; (· repeat (first | exact Pick.here | (refine Pick.sl ?_; (· repeat (first | exact List.Mem.head _ | assumption | apply List.Mem.tail))) | apply Pick.there))) | (refine Ent.trans (Ent.drop _ _) ?_))) Each.nil)

set_option maxRecDepth 100000 in
theorem clone8_ok {κ : World} {L : List Assn} {a : Option Addr} {m c : Nat} {l : List UInt8} (hsrc : Src Tryd.prog L R8 (.slice a m c) l) (hl : l.length = m) (hn : a = none → m = 0) (hb : m ≤ 100000000000) :
    Ctr Tryd.prog 70 #[.slice a m c] κ L (fun v M => ∃ a' c', v = .slice a' m c' ∧ M = Buf R8 5 a' m c' l :: L) := by
 refine Ctr.enter (vs := [.slice a m c]) (m := 8) Tryd.func70 rfl rfl rfl ?_
 refine SG.seq ?_
 refine SG.region ?_
 refine RL.val (Wanted.free rfl) (V.assign rfl rfl) rfl ?_
 refine RL.nil ?_
 refine SG.seq ?_
 refine SG.seq ?_
 refine SG.region ?_
 refine RL.val (Wanted.free rfl) (V.move rfl rfl) rfl ?_
 refine RL.val (Wanted.free rfl) (V.eqlNil rfl el62.under rfl rfl) rfl ?_
 refine RL.nil ?_
 refine SG.cond rfl (fun h4 => ?_) (fun h4 => ?_)
 ·
  have ha : a = none := by simpa using h4
  have hm0 := hn ha
  have hl0 : l = [] := List.eq_nil_of_length_eq_zero (by omega)
  subst hm0; subst hl0
  refine SG.ent (Buf.nil (T := R8) (e := 5)) ?_
  refine SG.seq ?_
  refine SG.region ?_
  refine RL.val (Wanted.free rfl) (V.assign rfl rfl) rfl ?_
  refine RL.nil ?_
  refine SG.retE (Ret.r1 Tryd.func70 rfl (.tmp rfl)) ?_ ⟨_, _, rfl, rfl⟩
  exact entX
 ·
  refine SG.skip ?_
  refine SG.seq ?_
  refine SG.region ?_
  refine RL.eff (Wanted.free rfl) (E.lit0 (T := R8) rfl rfl el62) rfl ?_
  rintro _ _ ⟨b6, rfl, rfl⟩
  refine RL.val (Wanted.free rfl) (V.move rfl rfl) rfl ?_
  refine RL.eff (Wanted.free rfl) (E.append (T := R8) rfl rfl rfl el62 el62.noInt rfl rfl pickX (hsrc.weaken (by intro z h H; exact Ent.drop _ _ z h H)) (by simp; omega) (by simp; omega)) rfl ?_
  intro _ _ hK8
  try rw [List.nil_append] at hK8
  try rw [Nat.zero_add] at hK8
  rw [hl] at hK8
  obtain ⟨a8, c8, rfl, rfl⟩ := hK8
  refine RL.val (Wanted.free rfl) (V.assign rfl rfl) rfl ?_
  refine RL.nil ?_
  refine SG.retE (Ret.r1 Tryd.func70 rfl (.tmp rfl)) ?_ ⟨_, _, rfl, rfl⟩
  exact entX

set_option maxRecDepth 100000 in
theorem dRead_ok {κ : World} {L : List Assn} {L1 : List Assn} {b : Nat} {D : Dk} {m0 : Nat} (hD : D.ok m0) (hp : Pick (Dsk b D) L L1) (k : Int) (_ : m0 ≤ 1000000) :
    Ctr Tryd.prog 76 #[ptr b 0, vI k] κ L (fun v M => ∃ a m c, v = .tuple #[.slice a m c, vI (D.read k).2] ∧ M = Buf R8 5 a m c (D.read k).1 :: Dsk b D :: L1) := by
 refine Ctr.enter (vs := [ptr b 0, vI k]) (m := 39) Tryd.func76 rfl rfl rfl ?_
 refine SG.seq ?_
 refine SG.region ?_
 refine RL.val (Wanted.free rfl) (V.assign rfl rfl) rfl ?_
 refine RL.val (Wanted.free rfl) (V.assign rfl rfl) rfl ?_
 refine RL.nil ?_
 refine SG.seq ?_
 refine SG.seq ?_
 refine SG.region ?_
 refine RL.val (Wanted.free rfl) (V.move rfl rfl) rfl ?_
 refine RL.val (Wanted.free rfl) (V.move rfl rfl) rfl ?_
 refine RL.eff (Wanted.free rfl) (E.call rfl go86 rfl (dHas_ok (by assumption) pickX _)) rfl ?_
 rintro _ _ ⟨rfl, rfl⟩
 refine RL.val (Wanted.free rfl) (V.assign rfl rfl) rfl ?_
 refine RL.nil ?_
 refine SG.seq ?_
 refine SG.region ?_
 refine RL.val (Wanted.free rfl) (V.move rfl rfl) rfl ?_
 refine RL.cmp (Wanted.free rfl) (V.bin rfl rfl rfl B.neq) rfl (fun h8 => ?_) (fun h8 => ?_)
 ·
  have hr : D.read k = ([], D.errOf k) := if_neg (by omega)
  rw [hr]
  refine RL.nil ?_
  refine SG.cond_true rfl ?_
  refine SG.seq ?_
  refine SG.ent (Buf.nil (T := R8) (e := 5)) ?_
  refine SG.region ?_
  refine RL.val (Wanted.free rfl) (V.move rfl rfl) rfl ?_
  refine RL.val (Wanted.free rfl) (V.assign rfl rfl) rfl ?_
  refine RL.val (Wanted.free rfl) (V.assign rfl rfl) rfl ?_
  refine RL.nil ?_
  refine SG.retE (Ret.r2 Tryd.func76 rfl (.tmp rfl) (.tmp rfl)) ?_ ⟨_, _, _, rfl, rfl⟩
  refine Ent.cons pickX ?_
  exact entX
 ·
  have hr : D.read k = (lst (D.at k), 0) := if_pos (by omega)
  rw [hr]
  refine RL.nil ?_
  refine SG.cond_false rfl ?_
  refine SG.skip ?_
  refine SG.seq ?_
  have he0 : D.errOf k = 0 := by omega
  obtain ⟨hk0, hk1, hoff⟩ := Dk.errOf_zero.1 he0
  obtain ⟨kn, rfl⟩ := Int.eq_ofNat_of_zero_le hk0
  have hk := Dk.at_mem hk0 hk1
  rw [Int.toNat_natCast] at hk
  generalize D.at (kn : Int) = l at *
  obtain ⟨hl1, hl2, hl3⟩ := hD.all l (mem_of hk)
  refine SG.openDsk (b := b) pickX fun ad c bm => ?_
  refine SG.fwd pickX hk fun es a1 m1 c1 xs hF => ?_
  refine SG.buf (a := a1) pickX fun hm1 _ _ => ?_
  have h64h : (hd l).length = 64 := hl3 _ (hd_mem hl1)
  have h64 : (lst l).length = 64 := hl3 _ (lst_mem hl1)
  refine SG.region ?_
  refine RL.val (Wanted.free rfl) (V.move rfl rfl) rfl ?_
  refine RL.val (Wanted.free rfl) (V.nilCheck rfl rfl) rfl ?_
  refine RL.val (Wanted.free rfl) (V.fieldAddr rfl rfl fo95_0) rfl ?_
  refine RL.val (Wanted.free rfl) (V.load rfl on92 rfl pickX rfl) rfl ?_
  refine RL.val (Wanted.free rfl) (V.move rfl rfl) rfl ?_
  refine RL.val (Wanted.free rfl) (V.indexAd (j := kn) rfl el92.slice rfl rfl (by first | rfl | omega) (by omega)) rfl ?_
  refine RL.val (Wanted.free rfl) (V.loadBufDt rfl ag130 rfl pickX (by rw [List.getElem?_map, hk]; rfl : (D.S.map hd)[kn]? = some (hd l))) rfl ?_
  refine RL.eff (Wanted.free rfl) (E.alloc rfl ze130) rfl ?_
  rintro _ _ ⟨b19, rfl, rfl⟩
  refine RL.eff (Wanted.free rfl) (E.storeWhole rfl rfl rfl (by simpa using h64h) sz130 pickX (by intro u hu; obtain ⟨x, _, rfl⟩ := List.mem_map.1 hu; rfl) (by simp)) rfl ?_
  rintro _ _ rfl
  refine RL.nil ?_
  refine SG.seq ?_
  refine SG.seq ?_
  refine SG.region ?_
  refine RL.val (Wanted.free rfl) (V.move rfl rfl) rfl ?_
  refine RL.val (Wanted.free rfl) (V.nilCheck rfl rfl) rfl ?_
  refine RL.val (Wanted.free rfl) (V.fieldAddr rfl rfl fo95_1) rfl ?_
  refine RL.val (Wanted.free rfl) (V.load rfl on93 rfl pickX rfl) rfl ?_
  refine RL.val (Wanted.free rfl) (V.move rfl rfl) rfl ?_
  refine RL.val (Wanted.free rfl) (V.lookup rfl mt93 rfl rfl pickX) rfl ?_
  rw [hF.look]
  refine RL.val (Wanted.free rfl) (V.assign rfl rfl) rfl ?_
  refine RL.nil ?_
  refine SG.seq ?_
  refine SG.region ?_
  refine RL.val (Wanted.free rfl) (V.move rfl rfl) rfl ?_
  refine RL.val (Wanted.free rfl) (V.len rfl rfl el92.under rfl) rfl ?_
  refine RL.cmp (Wanted.free rfl) (V.bin rfl rfl rfl B.gtr) rfl (fun h30 => ?_) (fun h30 => ?_)
  ·
   refine RL.nil ?_
   refine SG.cond_true rfl ?_
   refine SG.region ?_
   refine RL.val (Wanted.free rfl) (V.move rfl rfl) rfl ?_
   refine RL.val (Wanted.free rfl) (V.move rfl rfl) rfl ?_
   refine RL.val (Wanted.free rfl) (V.len rfl rfl el92.under rfl) rfl ?_
   refine RL.val (Wanted.free rfl) (V.bin rfl rfl rfl (B.subI (by omega) (by omega))) rfl ?_
   refine RL.val (Wanted.free rfl) (V.indexBuf (j := m1 - 1) rfl el92.slice rfl rfl pickX (by first | rfl | omega) (by omega)) rfl ?_
   refine RL.val (Wanted.free rfl) (V.loadBufDt rfl ag130 rfl pickX (by have h := last_tail (l := l) (by intro h0; rw [h0] at hm1; simp at hm1; omega); rw [hm1] at h; exact h)) rfl ?_
   refine RL.eff (Wanted.free rfl) (E.storeWhole rfl rfl rfl (by simpa using h64) sz130 pickX (by intro u hu; obtain ⟨x, _, rfl⟩ := List.mem_map.1 hu; rfl) (by simpa using h64h)) rfl ?_
   rintro _ _ rfl
   refine RL.nil ?_
   refine SG.seq ?_
   refine SG.region ?_
   refine RL.val (Wanted.free rfl) (V.sliceArr rfl ar130 rfl rfl rfl rfl (by omega) (by omega)) rfl ?_
   refine RL.eff (Wanted.free rfl) (E.call rfl go70 rfl (clone8_ok (Src.blk8 h64 pickX) h64 (by intro h0; cases h0) (by omega))) rfl ?_
   rintro _ _ ⟨a38, c38, rfl, rfl⟩
   refine RL.val (Wanted.free rfl) (V.assign rfl rfl) rfl ?_
   refine RL.val (Wanted.free rfl) (V.assign rfl rfl) rfl ?_
   refine RL.nil ?_
   refine SG.retE (Ret.r2 Tryd.func76 rfl (.tmp rfl) (.tmp rfl)) ?_ ⟨_, _, _, rfl, rfl⟩
   refine Ent.cons pickX ?_
   refine Dsk.ent (ad := ad) (c := c) (bm := bm) ?_
   try rw [lst_tail_nil (by assumption)]
   refine Ent.cons pickX ?_
   refine Ent.cons pickX ?_
   refine Ent.trans ?_ (hF.back L1)
   exact entX
  ·
   have ht : l.tail = [] := List.eq_nil_of_length_eq_zero (by omega)
   rw [← lst_tail_nil ht] at *
   refine RL.nil ?_
   refine SG.cond_false rfl ?_
   refine SG.skip ?_
   refine SG.seq ?_
   refine SG.region ?_
   refine RL.val (Wanted.free rfl) (V.sliceArr rfl ar130 rfl rfl rfl rfl (by omega) (by omega)) rfl ?_
   refine RL.eff (Wanted.free rfl) (E.call rfl go70 rfl (clone8_ok (Src.blk8 h64 pickX) h64 (by intro h0; cases h0) (by omega))) rfl ?_
   rintro _ _ ⟨a38, c38, rfl, rfl⟩
   refine RL.val (Wanted.free rfl) (V.assign rfl rfl) rfl ?_
   refine RL.val (Wanted.free rfl) (V.assign rfl rfl) rfl ?_
   refine RL.nil ?_
   refine SG.retE (Ret.r2 Tryd.func76 rfl (.tmp rfl) (.tmp rfl)) ?_ ⟨_, _, _, rfl, rfl⟩
   refine Ent.cons pickX ?_
   refine Dsk.ent (ad := ad) (c := c) (bm := bm) ?_
   try rw [lst_tail_nil (by assumption)]
   refine Ent.cons pickX ?_
   refine Ent.cons pickX ?_
   refine Ent.trans ?_ (hF.back L1)
   exact entX

set_option maxRecDepth 100000 in
theorem dWrite_ok {κ : World} {L : List Assn} {L1 : List Assn} {b : Nat} {D : Dk} {m0 : Nat} (hD : D.ok m0) (hp : Pick (Dsk b D) L L1) (k : Int) {a0 : Option Addr} {n0 c0 : Nat} {s : List UInt8} (hm : Sl R8 a0 n0 c0 s ∈ L1) (hm0 : m0 ≤ 1000000) :
    Ctr Tryd.prog 64 #[ptr b 0, vI k, .slice a0 n0 c0] κ L (fun v M => v = vI (D.writeE k s) ∧ M = Dsk b (D.write k s) :: L1) := by
 refine Ctr.enter (vs := [ptr b 0, vI k, .slice a0 n0 c0]) (m := 35) Tryd.func64 rfl rfl rfl ?_
 refine SG.fact (fun w hs => Sep.slLen (hs.ent hp) (List.Mem.tail _ hm)) fun hl => ?_
 refine SG.seq ?_
 refine SG.region ?_
 refine RL.val (Wanted.free rfl) (V.assign rfl rfl) rfl ?_
 refine RL.nil ?_
 refine SG.seq ?_
 refine SG.seq ?_
 refine SG.region ?_
 refine RL.val (Wanted.free rfl) (V.move rfl rfl) rfl ?_
 refine RL.val (Wanted.free rfl) (V.len rfl rfl el62.under rfl) rfl ?_
 refine RL.cmp (Wanted.free rfl) (V.bin rfl rfl rfl B.neq) rfl (fun h4 => ?_) (fun h4 => ?_)
 ·
  have hw : D.write k s = D := if_neg (by omega)
  have he : D.writeE k s = 1 := if_neg (by omega)
  rw [hw, he]
  refine RL.nil ?_
  refine SG.cond_true rfl ?_
  refine SG.seq ?_
  refine SG.region ?_
  refine RL.val (Wanted.free rfl) (V.assign rfl rfl) rfl ?_
  refine RL.nil ?_
  refine SG.retE (Ret.r1 Tryd.func64 rfl (.tmp rfl)) ?_ ⟨rfl, rfl⟩
  exact hp
 ·
  obtain rfl : n0 = 64 := by omega
  refine RL.nil ?_
  refine SG.cond_false rfl ?_
  refine SG.skip ?_
  refine SG.seq ?_
  refine SG.seq ?_
  refine SG.region ?_
  refine RL.val (Wanted.free rfl) (V.move rfl rfl) rfl ?_
  refine RL.val (Wanted.free rfl) (V.move rfl rfl) rfl ?_
  refine RL.eff (Wanted.free rfl) (E.call rfl go86 rfl (dHas_ok (by assumption) pickX _)) rfl ?_
  rintro _ _ ⟨rfl, rfl⟩
  refine RL.val (Wanted.free rfl) (V.assign rfl rfl) rfl ?_
  refine RL.nil ?_
  refine SG.seq ?_
  refine SG.region ?_
  refine RL.val (Wanted.free rfl) (V.move rfl rfl) rfl ?_
  refine RL.cmp (Wanted.free rfl) (V.bin rfl rfl rfl B.neq) rfl (fun h11 => ?_) (fun h11 => ?_)
  ·
   have hw : D.write k s = D := if_neg (by omega)
   have he : D.writeE k s = D.errOf k := if_pos hl
   rw [hw, he]
   refine RL.nil ?_
   refine SG.cond_true rfl ?_
   refine SG.seq ?_
   refine SG.region ?_
   refine RL.val (Wanted.free rfl) (V.move rfl rfl) rfl ?_
   refine RL.val (Wanted.free rfl) (V.assign rfl rfl) rfl ?_
   refine RL.nil ?_
   refine SG.retE (Ret.r1 Tryd.func64 rfl (.tmp rfl)) ?_ ⟨rfl, rfl⟩
   exact entX
  ·
   have he0 : D.errOf k = 0 := by omega
   have hw : D.write k s = (D.add k s).spend := if_pos ⟨hl, he0⟩
   have he : D.writeE k s = 0 := (if_pos hl).trans he0
   rw [hw, he]
   refine RL.nil ?_
   refine SG.cond_false rfl ?_
   refine SG.skip ?_
   refine SG.seq ?_
   obtain ⟨hk0, hk1, hoff⟩ := Dk.errOf_zero.1 he0
   obtain ⟨kn, rfl⟩ := Int.eq_ofNat_of_zero_le hk0
   have hk := Dk.at_mem hk0 hk1
   rw [Int.toNat_natCast] at hk
   refine SG.openDsk (b := b) pickX fun ad c bm => ?_
   refine SG.fwd pickX hk fun es a1 m1 c1 xs hF => ?_
   refine SG.buf (a := a1) pickX fun hm1 _ _ => ?_
   obtain ⟨hl1, hl2, hl3⟩ := hD.all _ (mem_of hk)
   have hm2 : m1 ≤ 1000000 := by rw [← hm1, List.length_tail]; omega
   refine SG.drawN 17 16 (Mp bm es :: Each (own 130) xs :: Blk b 95 [.slice (some ad) D.S.length c, .map (some bm), .bool D.off, vI D.fuse] :: Buf (RArr8 64) 130 (some ad) D.S.length c (D.S.map hd) :: L1) wide rfl rfl (by repeat (first | exact Ent.refl _ | (apply Ent.cons; (· repeat (first | exact Pick.here | (refine Pick.sl ?_; (· repeat (first | exact List.Mem.head _ | assumption | apply List.Mem.tail))) | apply Pick.there))) | (refine Ent.trans (Ent.drop _ _) ?_))) ?_
   refine RH.val 0 rfl krX krX krX krX (Wanted.free rfl) (V.move rfl rfl) rfl ?_
   refine RH.val 1 rfl krX krX krX krX (Wanted.free rfl) (V.nilCheck rfl rfl) rfl ?_
   refine RH.val 2 rfl krX krX krX krX (Wanted.free rfl) (V.fieldAddr rfl rfl fo95_1) rfl ?_
   refine RH.val 3 rfl krX krX krX krX (Wanted.free rfl) (V.load rfl on93 rfl pickX rfl) rfl ?_
   refine RH.val 4 rfl krX krX krX krX (Wanted.free rfl) (V.move rfl rfl) rfl ?_
   refine RH.val 5 rfl krX krX krX krX (Wanted.free rfl) (V.move rfl rfl) rfl ?_
   refine RH.val 6 rfl krX krX krX krX (Wanted.free rfl) (V.nilCheck rfl rfl) rfl ?_
   refine RH.val 7 rfl krX krX krX krX (Wanted.free rfl) (V.fieldAddr rfl rfl fo95_1) rfl ?_
   refine RH.val 8 rfl krX krX krX krX (Wanted.free rfl) (V.load rfl on93 rfl pickX rfl) rfl ?_
   refine RH.val 9 rfl krX krX krX krX (Wanted.free rfl) (V.move rfl rfl) rfl ?_
   refine RH.val 10 rfl krX krX krX krX (Wanted.free rfl) (V.lookup rfl mt93 rfl rfl pickX) rfl ?_
   rw [hF.look]
   refine RH.val 11 rfl krX krX krX krX (Wanted.free rfl) (V.move rfl rfl) rfl ?_
   refine RH.val 12 rfl krX krX krX krX (Wanted.free rfl) (V.sl2arr rfl ar130 rfl (by omega)) rfl ?_
   refine RH.val 13 rfl krX krX krX krX (Wanted.free rfl) (V.loadArrSl rfl ag130 rfl memX (by omega)) rfl ?_
   refine RH.one (i := 14) krX ?_
   refine RHone.eff rfl (Wanted.free rfl) (E.lit1 (s.map v8) rfl el92.slice ze130 (by simp) (by decide) (by decide) rfl rfl (by simpa using hl)) rfl ?_
   rintro _ _ ⟨b31, rfl, rfl⟩
   refine ⟨.inr entX, ?_⟩
   refine RH.one (i := 15) krX ?_
   refine RHone.eff rfl (Wanted.free rfl) (E.append (T := (RArr8 64)) rfl rfl rfl el92 el92.noInt rfl rfl pickX (Src.litDt (y := s) pickX rfl hl) (by first | omega | (simp; omega)) (by first | omega | (simp; omega))) rfl ?_
   intro _ _ hK29
   try rw [List.nil_append] at hK29
   try rw [Nat.zero_add] at hK29
   obtain ⟨a2, c2, rfl, rfl⟩ := hK29
   refine ⟨.inr entX, ?_⟩
   refine RH.one (i := 16) krX ?_
   refine RHone.eff rfl (Wanted.free rfl) (E.mapUpdate rfl mt93 rfl rfl rfl pickX) rfl ?_
   rintro _ _ rfl
   refine ⟨.inl krX, ?_⟩
   refine RH.done krX ?_
   refine SG.seq ?_
   have e3 : (D.at kn ++ [s]).tail = (D.at kn).tail ++ [s] := List.tail_append_of_ne_nil hl1
   have e2 : (D.add kn s).S.map hd = D.S.map hd := set_hd hk (by rw [hd_tail hl1]; rfl)
   refine SG.ent (?_ : Ent _ (Dsk b (D.add kn s) :: L1)) ?_
   ·
    refine Dsk.ent (ad := ad) (c := c) (bm := bm) ?_
    rw [e2, Dk.add_len]
    refine Ent.cons pickX ?_
    refine Ent.cons pickX ?_
    refine Ent.trans ?_ (hF.put a2 (m1 + 1) c2 (D.at kn ++ [s]) (by rw [e3]; simp) L1)
    rw [e3]
    exact entX
   refine SG.region ?_
   refine RL.val (Wanted.free rfl) (V.move rfl rfl) rfl ?_
   refine RL.eff (Wanted.free rfl) (E.call rfl go87 rfl (dSpent_ok (hD.add hk0 hk1 hl) Pick.here)) rfl ?_
   rintro _ _ ⟨rfl, rfl⟩
   refine RL.nil ?_
   refine SG.seq ?_
   refine SG.region ?_
   refine RL.val (Wanted.free rfl) (V.assign rfl rfl) rfl ?_
   refine RL.nil ?_
   refine SG.retE (Ret.r1 Tryd.func64 rfl (.tmp rfl)) ?_ ⟨rfl, rfl⟩
   exact entX

set_option maxRecDepth 100000 in
theorem dFlush_ok {κ : World} {L : List Assn} {L1 : List Assn} {b : Nat} {D : Dk} {m0 : Nat} (hD : D.ok m0) (hp : Pick (Dsk b D) L L1) (_ : m0 ≤ 1000000) :
    Ctr Tryd.prog 66 #[ptr b 0] κ L (fun v M => v = vI D.flushE ∧ M = Dsk b D.flush :: L1) := by
 refine Ctr.enter (vs := [ptr b 0]) (m := 37) Tryd.func66 rfl rfl rfl ?_
 refine SG.openDsk hp fun ad c bm => ?_
 refine SG.seq ?_
 refine SG.region ?_
 refine RL.val (Wanted.free rfl) (V.assign rfl rfl) rfl ?_
 refine RL.nil ?_
 refine SG.seq ?_
 refine SG.seq ?_
 refine SG.region ?_
 refine RL.val (Wanted.free rfl) (V.move rfl rfl) rfl ?_
 refine RL.val (Wanted.free rfl) (V.nilCheck rfl rfl) rfl ?_
 refine RL.val (Wanted.free rfl) (V.fieldAddr rfl rfl fo95_2) rfl ?_
 refine RL.val (Wanted.free rfl) (V.load rfl on4 rfl pickX rfl) rfl ?_
 refine RL.nil ?_
 refine SG.cond rfl (fun h6 => ?_) (fun h6 => ?_)
 ·
  have hw : D.flush = D := if_pos (by assumption)
  have he : D.flushE = 10 := if_pos (by assumption)
  rw [hw, he]
  refine SG.seq ?_
  refine SG.region ?_
  refine RL.val (Wanted.free rfl) (V.assign rfl rfl) rfl ?_
  refine RL.nil ?_
  refine SG.retE (Ret.r1 Tryd.func66 rfl (.tmp rfl)) ?_ ⟨rfl, rfl⟩
  refine Dsk.ent (ad := ad) (c := c) (bm := bm) ?_
  exact entX
 ·
  have hw : D.flush = D.flushed.spend := if_neg (by simp_all)
  have he : D.flushE = 0 := if_neg (by simp_all)
  rw [hw, he]
  refine SG.skip ?_
  refine SG.seq ?_
  refine SG.seq ?_
  refine SG.openPend pickX fun xs hx => ?_
  refine SG.region ?_
  refine RL.val (Wanted.free rfl) (V.move rfl rfl) rfl ?_
  refine RL.val (Wanted.free rfl) (V.nilCheck rfl rfl) rfl ?_
  refine RL.val (Wanted.free rfl) (V.fieldAddr rfl rfl fo95_1) rfl ?_
  refine RL.val (Wanted.free rfl) (V.load rfl on93 rfl pickX rfl) rfl ?_
  refine RL.eff (Wanted.free rfl) (E.rangeMap rfl mt93 rfl pickX) rfl ?_
  rintro _ _ ⟨it, rfl, rfl⟩
  refine RL.nil ?_
  refine SG.block ?_
  refine SG.weaken (SG.loop2 (fun m al M => ∃ (rem : List (Int × Value)) (last : Option (Int × Value)) (dl : List Sec), m = rem.length ∧ FlI xs D.S rem dl ∧ al = [(0, ptr b 0), (13, ptr it 0)] ∧ M = MpIt bm it (xs.map ent) rem last :: Each (own 130) xs :: Blk b 95 [.slice (some ad) D.S.length c, .map (some bm), .bool D.off, vI D.fuse] :: Buf (RArr8 64) 130 (some ad) D.S.length c dl :: L1) (m0 := _) ⟨_, none, _, rfl, FlI.start hx, rfl, rfl⟩ ?_) ?_ ?_
  rotate_left
  ·
   repeat (first | exact EnvLe.nil _ | refine EnvLe.cons rfl ?_)
  ·
   exact entX
  rintro _ _ _ ⟨rem, last, dl, rfl, hI, rfl, rfl⟩ ih0
  refine SG.seq ?_
  refine SG.region ?_
  refine RL.eff (Wanted.free rfl) (E.nextMap rfl rfl pickX) rfl ?_
  rintro _ _ (⟨hrem13, rfl, rfl⟩ | ⟨x13, rem13, hx13, hperm13, rfl, rfl⟩)
  ·
   subst hrem13
   refine RL.val (Wanted.free rfl) (V.extract rfl rfl rfl) rfl ?_
   refine RL.nil ?_
   refine SG.seq ?_
   refine SG.cond_false rfl ?_
   refine SG.exit rfl ?_
   refine SG.seq ?_
   obtain rfl : dl = D.S.map lst := FlI.done hI
   refine SG.ent (Ent.trans (b := MpIt bm it (xs.map ent) [] last :: _) pickX MpIt.stop) ?_
   refine SG.region ?_
   refine RL.val (Wanted.free rfl) (V.move rfl rfl) rfl ?_
   refine RL.val (Wanted.free rfl) (V.nilCheck rfl rfl) rfl ?_
   refine RL.val (Wanted.free rfl) (V.fieldAddr rfl rfl fo95_1) rfl ?_
   refine RL.val (Wanted.free rfl) (V.load rfl on93 rfl pickX rfl) rfl ?_
   refine RL.eff (Wanted.free rfl) (E.clearMap rfl rfl rfl mt93 rfl pickX) rfl ?_
   rintro _ _ ⟨rfl, rfl⟩
   refine RL.nil ?_
   refine SG.seq ?_
   have e1 : D.flushed.S.length = D.S.length := by simp [Dk.flushed]
   have e2 : D.flushed.S.map hd = D.S.map lst := by simp [Dk.flushed, hd]
   refine SG.ent (?_ : Ent _ (Dsk b D.flushed :: L1)) ?_
   ·
    refine Dsk.ent (ad := ad) (c := c) (bm := bm) ?_
    rw [e1, e2]
    refine Ent.cons pickX ?_
    refine Ent.cons pickX ?_
    refine Pend.ent (Pnd.none fun l hl => by obtain ⟨l0, _, rfl⟩ := List.mem_map.1 hl; rfl) ?_
    exact Ent.cons pickX (Ent.trans (by repeat (first | exact Ent.refl _ | (apply Ent.cons; (· repeat (first | exact Pick.here | (refine Pick.sl ?_; (· repeat (first | exact List.Mem.head _ | assumption | apply List.Mem.tail))) | apply Pick.there))) | (refine Ent.trans (Ent.drop _ _) ?_))) Each.nil)
   refine SG.region ?_
   refine RL.val (Wanted.free rfl) (V.move rfl rfl) rfl ?_
   refine RL.eff (Wanted.free rfl) (E.call rfl go87 rfl (dSpent_ok hD.flushed Pick.here)) rfl ?_
   rintro _ _ ⟨rfl, rfl⟩
   refine RL.nil ?_
   refine SG.seq ?_
   refine SG.region ?_
   refine RL.val (Wanted.free rfl) (V.assign rfl rfl) rfl ?_
   refine RL.nil ?_
   refine SG.retE (Ret.r1 Tryd.func66 rfl (.tmp rfl)) ?_ ⟨rfl, rfl⟩
   exact entX
  ·
   obtain ⟨i, kn, a1, m1, c1, l, hi, hxe, hk, ht⟩ := ent_at hx (hI.sub _ hx13)
   subst hxe
   obtain ⟨hl1, hl2, hl3⟩ := hD.all _ (mem_of hk)
   have hkn := (List.getElem?_eq_some_iff.1 hk).1
   have hdl := hI.len
   have hst := hI.step hperm13 hk
   have hpl : _ = _ := hperm13.length_eq
   rw [List.length_cons] at hpl
   refine RL.val (Wanted.free rfl) (V.extract rfl rfl rfl) rfl ?_
   refine RL.nil ?_
   refine SG.seq ?_
   refine SG.cond_true rfl ?_
   refine SG.skip ?_
   refine SG.block ?_
   refine SG.seq ?_
   refine SG.region ?_
   refine RL.val (Wanted.free rfl) (V.entryMap rfl rfl pickX) rfl ?_
   refine RL.val (Wanted.free rfl) (V.extract rfl rfl rfl) rfl ?_
   refine RL.val (Wanted.free rfl) (V.extract rfl rfl rfl) rfl ?_
   refine RL.val (Wanted.free rfl) (V.assign rfl rfl) rfl ?_
   refine RL.val (Wanted.free rfl) (V.assign rfl rfl) rfl ?_
   refine RL.nil ?_
   refine SG.ent (Ent.trans (b := Each (own 130) xs :: _) pickX (own.take hi)) ?_
   refine SG.buf (a := a1) Pick.here fun hm1 _ _ => ?_
   have hpos := List.length_pos_iff.2 ht
   have h64 : (lst l).length = 64 := hl3 _ (lst_mem hl1)
   refine SG.drawL 13 12 wide rfl rfl ?_
   refine RH.val 0 rfl krX krX krX krX (Wanted.free rfl) (V.move rfl rfl) rfl ?_
   refine RH.val 1 rfl krX krX krX krX (Wanted.free rfl) (V.nilCheck rfl rfl) rfl ?_
   refine RH.val 2 rfl krX krX krX krX (Wanted.free rfl) (V.fieldAddr rfl rfl fo95_0) rfl ?_
   refine RH.val 3 rfl krX krX krX krX (Wanted.free rfl) (V.load rfl on92 rfl pickX rfl) rfl ?_
   refine RH.val 4 rfl krX krX krX krX (Wanted.free rfl) (V.move rfl rfl) rfl ?_
   refine RH.val 5 rfl krX krX krX krX (Wanted.free rfl) (V.move rfl rfl) rfl ?_
   refine RH.val 6 rfl krX krX krX krX (Wanted.free rfl) (V.move rfl rfl) rfl ?_
   refine RH.val 7 rfl krX krX krX krX (Wanted.free rfl) (V.len rfl rfl el92.under rfl) rfl ?_
   refine RH.val 8 rfl krX krX krX krX (Wanted.free rfl) (V.bin rfl rfl rfl (B.subI (by omega) (by omega))) rfl ?_
   refine RH.val 9 rfl krX krX krX krX (Wanted.free rfl) (V.indexBuf (j := m1 - 1) rfl el92.slice rfl rfl pickX (by first | rfl | omega) (by omega)) rfl ?_
   refine RH.val 10 rfl krX krX krX krX (Wanted.free rfl) (V.loadBufDt rfl ag130 rfl pickX (by have h := last_tail ht; rw [hm1] at h; exact h)) rfl ?_
   refine RH.val 11 rfl krX krX krX krX (Wanted.free rfl) (V.indexAd (j := kn) rfl el92.slice rfl rfl (by first | rfl | omega) (by omega)) rfl ?_
   refine RH.one (i := 12) krX ?_
   refine RHone.eff rfl (Wanted.free rfl) (E.storeBuf (T := RArr8 64) (j := kn) (y := lst l) ((lst l).map v8) rfl sz130 rfl rfl rfl pickX (by omega) (fun _ _ _ => ⟨rfl, h64⟩)) rfl ?_
   rintro _ _ rfl
   refine ⟨.inl krX, ?_⟩
   refine RH.done krX ?_
   refine SG.inBlock ?_
   refine SG.ent (Ent.trans (b := Buf (RArr8 64) 130 a1 m1 c1 l.tail :: Each (own 130) (xs.eraseIdx i) :: _) (Ent.cons pickX pickX) (own.back hi)) ?_
   refine SG.weaken (ih0 _ _ _ ?_ ⟨_, some ((kn : Int), .slice a1 m1 c1), _, rfl, hst, rfl, rfl⟩) ?_ ?_
   ·
    omega
   ·
    repeat (first | exact EnvLe.nil _ | refine EnvLe.cons rfl ?_)
   ·
    exact entX

set_option maxRecDepth 100000 in
theorem dSurv_ok {κ : World} {L : List Assn} {L1 : List Assn} {b : Nat} {D : Dk} {m0 : Nat} (hD : D.ok m0) (hp : Pick (Dsk b D) L L1) (t : Torn) (ht : inInt t.s ∧ inInt t.w ∧ inInt t.b) (h0 : 0 ≤ t.s) (h1 : t.s < D.S.length) (h2 : 1 < (D.at t.s).length) (hm0 : m0 ≤ 1000000) :
    Ctr Tryd.prog 74 #[ptr b 0, .agg [vI t.s, vI t.w, vI t.b].toArray] κ L (fun v M => v = .tuple #[] ∧ M = Dsk b (D.lost t) :: L1) := by
 refine Ctr.enter (vs := [ptr b 0, .agg [vI t.s, vI t.w, vI t.b].toArray]) (m := 60) Tryd.func74 rfl rfl rfl ?_
 obtain ⟨ts, tw, tb⟩ := t
 obtain ⟨kn, rfl⟩ := Int.eq_ofNat_of_zero_le h0
 have hk := Dk.at_mem (D := D) (k := (kn : Int)) h0 h1
 have hlost : D.lost ⟨kn, tw, tb⟩ = { D with S := D.S.set kn [surv (D.at kn) tw tb] } := rfl
 rw [hlost]
 rw [Int.toNat_natCast] at hk
 generalize D.at (kn : Int) = l at *
 obtain ⟨hl1, hl2, hl3⟩ := hD.all l (mem_of hk)
 simp only at h1 h2 ht
 refine SG.openDsk hp fun ad c bm => ?_
 refine SG.fwd pickX hk fun es a1 m1 c1 xs hF => ?_
 refine SG.buf (a := a1) pickX fun hm1 _ _ => ?_
 have hm2 : m1 = l.length - 1 := by rw [← hm1, List.length_tail]
 refine SG.bufAd (a := a1) pickX (by omega) fun ad1 had1 => ?_
 subst had1
 obtain ⟨hw0, hw1⟩ := limit_bd (n := tw) (most := (m1 : Int)) (by omega)
 obtain ⟨hb0, hb1⟩ := limit_bd (n := tb) (most := 64) (by omega)
 obtain ⟨wn, hwn⟩ := Int.eq_ofNat_of_zero_le hw0
 obtain ⟨nb, hnb⟩ := Int.eq_ofNat_of_zero_le hb0
 have hsv : surv l tw tb = if wn + 1 < l.length then (nth l (wn + 1)).take nb ++ (nth l wn).drop nb else nth l wn := by
    unfold surv
    rw [show (l.length : Int) - 1 = (m1 : Int) from by omega, hwn, hnb]; rfl
 rw [hsv]
 refine SG.seq ?_
 refine SG.region ?_
 refine RL.eff (Wanted.free rfl) (E.box [vI kn, vI tw, vI tb] rfl rfl rfl) rfl ?_
 rintro _ _ ⟨b3, rfl, rfl⟩
 refine RL.nil ?_
 refine SG.seq ?_
 refine SG.drawL 8 8 wide rfl rfl ?_
 refine RH.val 0 rfl krX krX krX krX (Wanted.free rfl) (V.move rfl rfl) rfl ?_
 refine RH.val 1 rfl krX krX krX krX (Wanted.free rfl) (V.nilCheck rfl rfl) rfl ?_
 refine RH.val 2 rfl krX krX krX krX (Wanted.free rfl) (V.fieldAddr rfl rfl fo95_1) rfl ?_
 refine RH.val 3 rfl krX krX krX krX (Wanted.free rfl) (V.load rfl on93 rfl pickX rfl) rfl ?_
 refine RH.val 4 rfl krX krX krX krX (Wanted.free rfl) (V.fieldAddr rfl rfl fo115_0) rfl ?_
 refine RH.val 5 rfl krX krX krX krX (Wanted.free rfl) (V.load rfl on3 rfl pickX rfl) rfl ?_
 refine RH.val 6 rfl krX krX krX krX (Wanted.free rfl) (V.lookup rfl mt93 rfl rfl pickX) rfl ?_
 rw [hF.look]
 refine RH.val 7 rfl krX krX krX krX (Wanted.free rfl) (V.assign rfl rfl) rfl ?_
 refine RH.done krX ?_
 refine SG.seq ?_
 refine SG.region ?_
 refine RL.val (Wanted.free rfl) (V.fieldAddr rfl rfl fo115_1) rfl ?_
 refine RL.val (Wanted.free rfl) (V.load rfl on3 rfl pickX rfl) rfl ?_
 refine RL.val (Wanted.free rfl) (V.max rfl rfl rfl rfl) rfl ?_
 refine RL.val (Wanted.free rfl) (V.move rfl rfl) rfl ?_
 refine RL.val (Wanted.free rfl) (V.len rfl rfl el92.under rfl) rfl ?_
 refine RL.val (Wanted.free rfl) (V.min rfl rfl rfl rfl) rfl ?_
 rw [limit_code (by omega), hwn]
 refine RL.val (Wanted.free rfl) (V.assign rfl rfl) rfl ?_
 refine RL.nil ?_
 refine SG.seq ?_
 refine SG.seq ?_
 refine SG.region ?_
 refine RL.val (Wanted.free rfl) (V.move rfl rfl) rfl ?_
 refine RL.cmp (Wanted.free rfl) (V.bin rfl rfl rfl B.gtr) rfl (fun h18 => ?_) (fun h18 => ?_)
 ·
  refine RL.nil ?_
  refine SG.cond_true rfl ?_
  have h64 : (nth l wn).length = 64 := hl3 _ (nth_mem (by omega))
  refine SG.drawL 13 12 wide rfl rfl ?_
  refine RH.val 0 rfl krX krX krX krX (Wanted.free rfl) (V.move rfl rfl) rfl ?_
  refine RH.val 1 rfl krX krX krX krX (Wanted.free rfl) (V.nilCheck rfl rfl) rfl ?_
  refine RH.val 2 rfl krX krX krX krX (Wanted.free rfl) (V.fieldAddr rfl rfl fo95_0) rfl ?_
  refine RH.val 3 rfl krX krX krX krX (Wanted.free rfl) (V.load rfl on92 rfl pickX rfl) rfl ?_
  refine RH.val 4 rfl krX krX krX krX (Wanted.free rfl) (V.fieldAddr rfl rfl fo115_0) rfl ?_
  refine RH.val 5 rfl krX krX krX krX (Wanted.free rfl) (V.load rfl on3 rfl pickX rfl) rfl ?_
  refine RH.val 6 rfl krX krX krX krX (Wanted.free rfl) (V.move rfl rfl) rfl ?_
  refine RH.val 7 rfl krX krX krX krX (Wanted.free rfl) (V.move rfl rfl) rfl ?_
  refine RH.val 8 rfl krX krX krX krX (Wanted.free rfl) (V.bin rfl rfl rfl (B.subI (by omega) (by omega))) rfl ?_
  refine RH.val 9 rfl krX krX krX krX (Wanted.free rfl) (V.indexAd (j := wn - 1) rfl el92.slice rfl rfl (by first | rfl | omega) (by omega)) rfl ?_
  refine RH.val 10 rfl krX krX krX krX (Wanted.free rfl) (V.loadBufDt rfl ag130 rfl pickX (by rw [tail_nth (by omega), show wn - 1 + 1 = wn from by omega] : l.tail[wn - 1]? = some (nth l wn))) rfl ?_
  refine RH.val 11 rfl krX krX krX krX (Wanted.free rfl) (V.indexAd (j := kn) rfl el92.slice rfl rfl (by first | rfl | omega) (by omega)) rfl ?_
  refine RH.one (i := 12) krX ?_
  refine RHone.eff rfl (Wanted.free rfl) (E.storeBuf (T := RArr8 64) (j := kn) (y := nth l wn) ((nth l wn).map v8) rfl sz130 rfl rfl rfl pickX (by simp; omega) (fun _ _ _ => ⟨rfl, h64⟩)) rfl ?_
  rintro _ _ rfl
  refine ⟨.inl krX, ?_⟩
  refine RH.done krX ?_
  refine SG.seq ?_
  refine SG.seq ?_
  refine SG.region ?_
  refine RL.val (Wanted.free rfl) (V.move rfl rfl) rfl ?_
  refine RL.val (Wanted.free rfl) (V.move rfl rfl) rfl ?_
  refine RL.val (Wanted.free rfl) (V.len rfl rfl el92.under rfl) rfl ?_
  refine RL.cmp (Wanted.free rfl) (V.bin rfl rfl rfl B.lss) rfl (fun h35 => ?_) (fun h35 => ?_)
  ·
   refine RL.nil ?_
   refine SG.cond_true rfl ?_
   have hn1 : (nth l (wn + 1)).length = 64 := hl3 _ (nth_mem (by omega))
   have hn2 : (nth l wn).length = 64 := hl3 _ (nth_mem (by omega))
   rw [if_pos (show wn + 1 < l.length by omega)]
   refine SG.drawN 17 17 (Blk b3 115 [vI kn, vI tw, vI tb] :: Mp bm es :: Buf (RArr8 64) 130 (some ad1) m1 c1 l.tail :: Each (own 130) xs :: Blk b 95 [.slice (some ad) D.S.length c, .map (some bm), .bool D.off, vI D.fuse] :: L1) wide rfl rfl (by repeat (first | exact Ent.refl _ | (apply Ent.cons; (· repeat (first | exact Pick.here | (refine Pick.sl ?_; (· repeat (first | exact List.Mem.head _ | assumption | apply List.Mem.tail))) | apply Pick.there))) | (refine Ent.trans (Ent.drop _ _) ?_))) ?_
   refine RH.val 0 rfl krX krX krX krX (Wanted.free rfl) (V.move rfl rfl) rfl ?_
   refine RH.val 1 rfl krX krX krX krX (Wanted.free rfl) (V.nilCheck rfl rfl) rfl ?_
   refine RH.val 2 rfl krX krX krX krX (Wanted.free rfl) (V.fieldAddr rfl rfl fo95_0) rfl ?_
   refine RH.val 3 rfl krX krX krX krX (Wanted.free rfl) (V.load rfl on92 rfl pickX rfl) rfl ?_
   refine RH.val 4 rfl krX krX krX krX (Wanted.free rfl) (V.fieldAddr rfl rfl fo115_0) rfl ?_
   refine RH.val 5 rfl krX krX krX krX (Wanted.free rfl) (V.load rfl on3 rfl pickX rfl) rfl ?_
   refine RH.val 6 rfl krX krX krX krX (Wanted.free rfl) (V.indexAd (j := kn) rfl el92.slice rfl rfl (by first | rfl | omega) (by omega)) rfl ?_
   refine RH.val 7 rfl krX krX krX krX (Wanted.free rfl) (V.fieldAddr rfl rfl fo115_2) rfl ?_
   refine RH.val 8 rfl krX krX krX krX (Wanted.free rfl) (V.load rfl on3 rfl pickX rfl) rfl ?_
   refine RH.val 9 rfl krX krX krX krX (Wanted.free rfl) (V.max rfl rfl rfl rfl) rfl ?_
   refine RH.val 10 rfl krX krX krX krX (Wanted.free rfl) (V.min rfl rfl rfl rfl) rfl ?_
   rw [limit_code (n := tb) (most := 64) (by omega), hnb]
   refine RH.val 11 rfl krX krX krX krX (Wanted.free rfl) (V.sliceAd (hi := nb) rfl ar130 rfl rfl ⟨_, _, rfl, (by first | rfl | omega)⟩ rfl (by omega) (by omega)) rfl ?_
   refine RH.val 12 rfl krX krX krX krX (Wanted.free rfl) (V.move rfl rfl) rfl ?_
   refine RH.val 13 rfl krX krX krX krX (Wanted.free rfl) (V.move rfl rfl) rfl ?_
   refine RH.val 14 rfl krX krX krX krX (Wanted.free rfl) (V.indexAd (j := wn) rfl el92.slice rfl rfl (by first | rfl | omega) (by omega)) rfl ?_
   refine RH.val 15 rfl krX krX krX krX (Wanted.free rfl) (V.sliceAd rfl ar130 rfl rfl rfl rfl (by omega) (by omega)) rfl ?_
   refine RH.one (i := 16) krX ?_
   refine RHone.eff rfl (Wanted.free rfl) (E.copyEl (w0 := 64) (d := nb) (a := some ad) (m := D.S.length) (j := kn) (s := nth l wn) (l2 := nth l (wn + 1)) rfl rfl rfl el62 rfl rfl pickX (by rw [List.getElem?_set_self (by simp; omega)]) (by omega) (Src.el (w' := 64) (a := some ad1) (m := m1) (c := c1) (e := 130) (j := wn) (l := l.tail) pickX (tail_nth (by omega)))) rfl ?_
   rintro _ _ ⟨rfl, rfl⟩
   refine ⟨.inr entX, ?_⟩
   rw [hn1, show min 64 nb = nb from by omega, List.set_set]
   refine RH.done krX ?_
   refine SG.drawL 7 6 wide rfl rfl ?_
   refine RH.pure 0 rfl krX krX krX krX (Wanted.free rfl) (V.move rfl rfl) rfl ?_
   refine RH.pure 1 rfl krX krX krX krX (Wanted.free rfl) (V.nilCheck rfl rfl) rfl ?_
   refine RH.pure 2 rfl krX krX krX krX (Wanted.free rfl) (V.fieldAddr rfl rfl fo95_1) rfl ?_
   refine RH.val 3 rfl krX krX krX krX (Wanted.free rfl) (V.load rfl on93 rfl pickX rfl) rfl ?_
   refine RH.pure 4 rfl krX krX krX krX (Wanted.free rfl) (V.fieldAddr rfl rfl fo115_0) rfl ?_
   refine RH.val 5 rfl krX krX krX krX (Wanted.free rfl) (V.load rfl on3 rfl pickX rfl) rfl ?_
   refine RH.one (i := 6) krX ?_
   refine RHone.eff rfl (Wanted.free rfl) (E.delete rfl rfl rfl mt93 rfl rfl pickX) rfl ?_
   rintro _ _ ⟨rfl, rfl⟩
   refine ⟨.inl krX, ?_⟩
   refine RH.done krX ?_
   refine SG.doneE (Ret.none Tryd.func74 rfl) ?_ ⟨rfl, rfl⟩
   refine Dsk.ent (ad := ad) (c := c) (bm := bm) ?_
   simp only [List.length_set, map_hd_set]
   refine Ent.cons pickX ?_
   refine Ent.cons pickX ?_
   refine Ent.trans ?_ (hF.del _ L1)
   exact entX
  ·
   rw [if_neg (show ¬ wn + 1 < l.length by omega)]
   refine RL.nil ?_
   refine SG.cond_false rfl ?_
   refine SG.skip ?_
   refine SG.drawL 7 6 wide rfl rfl ?_
   refine RH.pure 0 rfl krX krX krX krX (Wanted.free rfl) (V.move rfl rfl) rfl ?_
   refine RH.pure 1 rfl krX krX krX krX (Wanted.free rfl) (V.nilCheck rfl rfl) rfl ?_
   refine RH.pure 2 rfl krX krX krX krX (Wanted.free rfl) (V.fieldAddr rfl rfl fo95_1) rfl ?_
   refine RH.val 3 rfl krX krX krX krX (Wanted.free rfl) (V.load rfl on93 rfl pickX rfl) rfl ?_
   refine RH.pure 4 rfl krX krX krX krX (Wanted.free rfl) (V.fieldAddr rfl rfl fo115_0) rfl ?_
   refine RH.val 5 rfl krX krX krX krX (Wanted.free rfl) (V.load rfl on3 rfl pickX rfl) rfl ?_
   refine RH.one (i := 6) krX ?_
   refine RHone.eff rfl (Wanted.free rfl) (E.delete rfl rfl rfl mt93 rfl rfl pickX) rfl ?_
   rintro _ _ ⟨rfl, rfl⟩
   refine ⟨.inl krX, ?_⟩
   refine RH.done krX ?_
   refine SG.doneE (Ret.none Tryd.func74 rfl) ?_ ⟨rfl, rfl⟩
   refine Dsk.ent (ad := ad) (c := c) (bm := bm) ?_
   simp only [List.length_set, map_hd_set]
   refine Ent.cons pickX ?_
   refine Ent.cons pickX ?_
   refine Ent.trans ?_ (hF.del _ L1)
   exact entX
 ·
  have hset : (D.S.map hd) = (D.S.map hd).set kn (nth l wn) := by
   rw [show wn = 0 from by omega, ← hd_nth]
   apply List.ext_getElem?
   intro i
   rw [List.getElem?_set]
   split
   ·
    rename_i e; subst e; rw [List.getElem?_map, hk]; simp; omega
   ·
    rfl
  rw [hset]
  refine RL.nil ?_
  refine SG.cond_false rfl ?_
  refine SG.skip ?_
  refine SG.seq ?_
  refine SG.seq ?_
  refine SG.region ?_
  refine RL.val (Wanted.free rfl) (V.move rfl rfl) rfl ?_
  refine RL.val (Wanted.free rfl) (V.move rfl rfl) rfl ?_
  refine RL.val (Wanted.free rfl) (V.len rfl rfl el92.under rfl) rfl ?_
  refine RL.cmp (Wanted.free rfl) (V.bin rfl rfl rfl B.lss) rfl (fun h70 => ?_) (fun h70 => ?_)
  ·
   refine RL.nil ?_
   refine SG.cond_true rfl ?_
   have hn1 : (nth l (wn + 1)).length = 64 := hl3 _ (nth_mem (by omega))
   have hn2 : (nth l wn).length = 64 := hl3 _ (nth_mem (by omega))
   rw [if_pos (show wn + 1 < l.length by omega)]
   refine SG.drawN 17 17 (Blk b3 115 [vI kn, vI tw, vI tb] :: Mp bm es :: Buf (RArr8 64) 130 (some ad1) m1 c1 l.tail :: Each (own 130) xs :: Blk b 95 [.slice (some ad) D.S.length c, .map (some bm), .bool D.off, vI D.fuse] :: L1) wide rfl rfl (by repeat (first | exact Ent.refl _ | (apply Ent.cons; (· repeat (first | exact Pick.here | (refine Pick.sl ?_; (· repeat (first | exact List.Mem.head _ | assumption | apply List.Mem.tail))) | apply Pick.there))) | (refine Ent.trans (Ent.drop _ _) ?_))) ?_
   refine RH.val 0 rfl krX krX krX krX (Wanted.free rfl) (V.move rfl rfl) rfl ?_
   refine RH.val 1 rfl krX krX krX krX (Wanted.free rfl) (V.nilCheck rfl rfl) rfl ?_
   refine RH.val 2 rfl krX krX krX krX (Wanted.free rfl) (V.fieldAddr rfl rfl fo95_0) rfl ?_
   refine RH.val 3 rfl krX krX krX krX (Wanted.free rfl) (V.load rfl on92 rfl pickX rfl) rfl ?_
   refine RH.val 4 rfl krX krX krX krX (Wanted.free rfl) (V.fieldAddr rfl rfl fo115_0) rfl ?_
   refine RH.val 5 rfl krX krX krX krX (Wanted.free rfl) (V.load rfl on3 rfl pickX rfl) rfl ?_
   refine RH.val 6 rfl krX krX krX krX (Wanted.free rfl) (V.indexAd (j := kn) rfl el92.slice rfl rfl (by first | rfl | omega) (by omega)) rfl ?_
   refine RH.val 7 rfl krX krX krX krX (Wanted.free rfl) (V.fieldAddr rfl rfl fo115_2) rfl ?_
   refine RH.val 8 rfl krX krX krX krX (Wanted.free rfl) (V.load rfl on3 rfl pickX rfl) rfl ?_
   refine RH.val 9 rfl krX krX krX krX (Wanted.free rfl) (V.max rfl rfl rfl rfl) rfl ?_
   refine RH.val 10 rfl krX krX krX krX (Wanted.free rfl) (V.min rfl rfl rfl rfl) rfl ?_
   rw [limit_code (n := tb) (most := 64) (by omega), hnb]
   refine RH.val 11 rfl krX krX krX krX (Wanted.free rfl) (V.sliceAd (hi := nb) rfl ar130 rfl rfl ⟨_, _, rfl, (by first | rfl | omega)⟩ rfl (by omega) (by omega)) rfl ?_
   refine RH.val 12 rfl krX krX krX krX (Wanted.free rfl) (V.move rfl rfl) rfl ?_
   refine RH.val 13 rfl krX krX krX krX (Wanted.free rfl) (V.move rfl rfl) rfl ?_
   refine RH.val 14 rfl krX krX krX krX (Wanted.free rfl) (V.indexAd (j := wn) rfl el92.slice rfl rfl (by first | rfl | omega) (by omega)) rfl ?_
   refine RH.val 15 rfl krX krX krX krX (Wanted.free rfl) (V.sliceAd rfl ar130 rfl rfl rfl rfl (by omega) (by omega)) rfl ?_
   refine RH.one (i := 16) krX ?_
   refine RHone.eff rfl (Wanted.free rfl) (E.copyEl (w0 := 64) (d := nb) (a := some ad) (m := D.S.length) (j := kn) (s := nth l wn) (l2 := nth l (wn + 1)) rfl rfl rfl el62 rfl rfl pickX (by rw [List.getElem?_set_self (by simp; omega)]) (by omega) (Src.el (w' := 64) (a := some ad1) (m := m1) (c := c1) (e := 130) (j := wn) (l := l.tail) pickX (tail_nth (by omega)))) rfl ?_
   rintro _ _ ⟨rfl, rfl⟩
   refine ⟨.inr entX, ?_⟩
   rw [hn1, show min 64 nb = nb from by omega, List.set_set]
   refine RH.done krX ?_
   refine SG.drawL 7 6 wide rfl rfl ?_
   refine RH.pure 0 rfl krX krX krX krX (Wanted.free rfl) (V.move rfl rfl) rfl ?_
   refine RH.pure 1 rfl krX krX krX krX (Wanted.free rfl) (V.nilCheck rfl rfl) rfl ?_
   refine RH.pure 2 rfl krX krX krX krX (Wanted.free rfl) (V.fieldAddr rfl rfl fo95_1) rfl ?_
   refine RH.val 3 rfl krX krX krX krX (Wanted.free rfl) (V.load rfl on93 rfl pickX rfl) rfl ?_
   refine RH.pure 4 rfl krX krX krX krX (Wanted.free rfl) (V.fieldAddr rfl rfl fo115_0) rfl ?_
   refine RH.val 5 rfl krX krX krX krX (Wanted.free rfl) (V.load rfl on3 rfl pickX rfl) rfl ?_
   refine RH.one (i := 6) krX ?_
   refine RHone.eff rfl (Wanted.free rfl) (E.delete rfl rfl rfl mt93 rfl rfl pickX) rfl ?_
   rintro _ _ ⟨rfl, rfl⟩
   refine ⟨.inl krX, ?_⟩
   refine RH.done krX ?_
   refine SG.doneE (Ret.none Tryd.func74 rfl) ?_ ⟨rfl, rfl⟩
   refine Dsk.ent (ad := ad) (c := c) (bm := bm) ?_
   simp only [List.length_set, map_hd_set]
   refine Ent.cons pickX ?_
   refine Ent.cons pickX ?_
   refine Ent.trans ?_ (hF.del _ L1)
   exact entX
  ·
   rw [if_neg (show ¬ wn + 1 < l.length by omega)]
   refine RL.nil ?_
   refine SG.cond_false rfl ?_
   refine SG.skip ?_
   refine SG.drawL 7 6 wide rfl rfl ?_
   refine RH.pure 0 rfl krX krX krX krX (Wanted.free rfl) (V.move rfl rfl) rfl ?_
   refine RH.pure 1 rfl krX krX krX krX (Wanted.free rfl) (V.nilCheck rfl rfl) rfl ?_
   refine RH.pure 2 rfl krX krX krX krX (Wanted.free rfl) (V.fieldAddr rfl rfl fo95_1) rfl ?_
   refine RH.val 3 rfl krX krX krX krX (Wanted.free rfl) (V.load rfl on93 rfl pickX rfl) rfl ?_
   refine RH.pure 4 rfl krX krX krX krX (Wanted.free rfl) (V.fieldAddr rfl rfl fo115_0) rfl ?_
   refine RH.val 5 rfl krX krX krX krX (Wanted.free rfl) (V.load rfl on3 rfl pickX rfl) rfl ?_
   refine RH.one (i := 6) krX ?_
   refine RHone.eff rfl (Wanted.free rfl) (E.delete rfl rfl rfl mt93 rfl rfl pickX) rfl ?_
   rintro _ _ ⟨rfl, rfl⟩
   refine ⟨.inl krX, ?_⟩
   refine RH.done krX ?_
   refine SG.doneE (Ret.none Tryd.func74 rfl) ?_ ⟨rfl, rfl⟩
   refine Dsk.ent (ad := ad) (c := c) (bm := bm) ?_
   simp only [List.length_set, map_hd_set]
   refine Ent.cons pickX ?_
   refine Ent.cons pickX ?_
   refine Ent.trans ?_ (hF.del _ L1)
   exact entX

set_option maxRecDepth 100000 in
theorem dRestart_ok {κ : World} {L : List Assn} {L1 : List Assn} {b : Nat} {D : Dk} {m0 : Nat} (hD : D.ok m0) (hp : Pick (Dsk b D) L L1) {a0 : Option Addr} {n0 c0 : Nat} {ts : List Torn} (hm : Sl RTorn a0 n0 c0 ts ∈ L1) (hm1 : 1 ≤ m0) (hm0 : m0 ≤ 1000000) :
    Ctr Tryd.prog 40 #[ptr b 0, .slice a0 n0 c0] κ L (fun v M => v = .tuple #[] ∧ M = Dsk b (D.restart ts) :: L1) := by
 refine Ctr.enter (vs := [ptr b 0, .slice a0 n0 c0]) (m := 39) Tryd.func40 rfl rfl rfl ?_
 refine SG.fact (fun w hs => Sep.slOk (hs.ent hp) (List.Mem.tail _ hm)) fun hok => ?_
 refine SG.ent hp ?_
 refine SG.sl (List.Mem.tail _ hm) fun hl hlc hc63 => ?_
 subst hl
 refine SG.seq ?_
 refine SG.seq ?_
 refine SG.region ?_
 refine RL.val (Wanted.free rfl) (V.move rfl rfl) rfl ?_
 refine RL.val (Wanted.free rfl) (V.len rfl rfl el68.under rfl) rfl ?_
 refine RL.val (Wanted.free rfl) (V.move rfl rfl) rfl ?_
 refine RL.nil ?_
 refine SG.block ?_
 refine SG.weaken (SG.loop2 (fun m al M => ∃ i : Nat, i ≤ ts.length ∧ m = ts.length - i ∧ al = [(0, ptr b 0), (8, .slice a0 ts.length c0), (9, vI ts.length), (10, vI i)] ∧ M = Dsk b (D.stepped (ts.take i)) :: L1) (m0 := _) ⟨0, by omega, rfl, rfl, rfl⟩ ?_) ?_ ?_
 rotate_left
 ·
  repeat (first | exact EnvLe.nil _ | refine EnvLe.cons rfl ?_)
 ·
  exact entX
 rintro _ _ _ ⟨i, hi, rfl, rfl, rfl⟩ ih0
 refine SG.seq ?_
 refine SG.region ?_
 refine RL.cmp (Wanted.free rfl) (V.bin rfl rfl rfl B.lss) rfl (fun h4 => ?_) (fun h4 => ?_)
 ·
  refine RL.nil ?_
  refine SG.seq ?_
  refine SG.cond_true rfl ?_
  refine SG.skip ?_
  refine SG.seq ?_
  refine SG.block ?_
  refine SG.seq ?_
  obtain ⟨to1, to2, to3⟩ := hok ts[i] (List.getElem_mem _)
  have hDs := hD.stepped hm1 (ts.take i)
  refine SG.region ?_
  refine RL.val (Wanted.free rfl) (V.indexSl (j := i) rfl el68.slice rfl rfl memX (by first | rfl | omega) (by omega)) rfl ?_
  refine RL.val (Wanted.free rfl) (V.loadSlDt rfl ag115 rfl memX (List.getElem?_eq_getElem (by omega))) rfl ?_
  refine RL.eff (Wanted.free rfl) (E.alloc rfl ze115) rfl ?_
  rintro _ _ ⟨b5, rfl, rfl⟩
  refine RL.eff (Wanted.free rfl) (E.storeWhole rfl rfl rfl rfl sz115 pickX (by simp [Value.oneCell']) (by rfl)) rfl ?_
  rintro _ _ rfl
  refine RL.nil ?_
  refine SG.seq ?_
  refine SG.openDsk (b := b) pickX fun ad c bm => ?_
  refine SG.openPend pickX fun xs hx => ?_
  refine SG.drawL 12 12 wide rfl rfl ?_
  refine RH.val 0 rfl krX krX krX krX (Wanted.free rfl) (V.move rfl rfl) rfl ?_
  refine RH.val 1 rfl krX krX krX krX (Wanted.free rfl) (V.nilCheck rfl rfl) rfl ?_
  refine RH.val 2 rfl krX krX krX krX (Wanted.free rfl) (V.fieldAddr rfl rfl fo95_1) rfl ?_
  refine RH.val 3 rfl krX krX krX krX (Wanted.free rfl) (V.load rfl on93 rfl pickX rfl) rfl ?_
  refine RH.val 4 rfl krX krX krX krX (Wanted.free rfl) (V.fieldAddr rfl rfl fo115_0) rfl ?_
  refine RH.val 5 rfl krX krX krX krX (Wanted.free rfl) (V.load rfl on3 rfl pickX rfl) rfl ?_
  refine RH.val 6 rfl krX krX krX krX (Wanted.free rfl) (V.lookupOk rfl mt93 rfl rfl pickX) rfl ?_
  rw [hx.isSome]
  refine RH.val 7 rfl krX krX krX krX (Wanted.free rfl) (V.move rfl rfl) rfl ?_
  refine RH.val 8 rfl krX krX krX krX (Wanted.free rfl) (V.extract rfl rfl rfl) rfl ?_
  refine RH.val 9 rfl krX krX krX krX (Wanted.free rfl) (V.extract rfl rfl rfl) rfl ?_
  refine RH.val 10 rfl krX krX krX krX (Wanted.free rfl) (V.assign rfl rfl) rfl ?_
  refine RH.val 11 rfl krX krX krX krX (Wanted.free rfl) (V.assign rfl rfl) rfl ?_
  refine RH.done krX ?_
  refine SG.seq ?_
  refine SG.region ?_
  refine RL.val (Wanted.free rfl) (V.move rfl rfl) rfl ?_
  refine RL.nil ?_
  refine SG.cond rfl (fun h22 => ?_) (fun h22 => ?_)
  ·
   have hc := of_decide_eq_true h22
   have hstep : D.stepped (ts.take i ++ [ts[i]]) = (D.stepped (ts.take i)).lost ts[i] := by rw [stepped_snoc, rstep, if_pos hc]; rfl
   refine SG.ent (?_ : Ent _ (Dsk b (D.stepped (ts.take i)) :: Blk b5 115 [vI ts[i].s, vI ts[i].w, vI ts[i].b] :: L1)) ?_
   ·
    refine Dsk.ent (ad := ad) (c := c) (bm := bm) ?_
    refine Ent.cons pickX ?_
    refine Ent.cons pickX ?_
    refine Pend.ent hx ?_
    exact entX
   refine SG.region ?_
   refine RL.val (Wanted.free rfl) (V.move rfl rfl) rfl ?_
   refine RL.val (Wanted.free rfl) (V.loadAgg (us := [vI ts[i].s, vI ts[i].w, vI ts[i].b]) rfl ag115 rfl pickX rfl rfl) rfl ?_
   refine RL.eff (Wanted.free rfl) (E.call rfl go74 rfl (dSurv_ok hDs Pick.here ts[i] ⟨to1, to2, to3⟩ hc.1 hc.2.1 hc.2.2 hm0)) rfl ?_
   rintro _ _ ⟨rfl, rfl⟩
   refine RL.nil ?_
   refine SG.inBlock ?_
   refine SG.region ?_
   refine RL.val (Wanted.free rfl) (V.bin rfl rfl rfl (B.addI (by omega) (by omega))) rfl ?_
   refine RL.val (Wanted.free rfl) (V.move rfl rfl) rfl ?_
   refine RL.nil ?_
   have htk : ts.take (i + 1) = ts.take i ++ [ts[i]] := by rw [List.take_add_one, List.getElem?_eq_getElem (by omega)]; rfl
   refine SG.weaken (ih0 _ _ _ ?_ ⟨i + 1, by omega, rfl, rfl, rfl⟩) ?_ ?_
   ·
    omega
   ·
    repeat (first | exact EnvLe.nil _ | refine EnvLe.cons rfl ?_)
   ·
    rw [htk, hstep]
    exact entX
  ·
   have hc := of_decide_eq_false h22
   have hstep : D.stepped (ts.take i ++ [ts[i]]) = D.stepped (ts.take i) := by rw [stepped_snoc, rstep, if_neg hc]; rfl
   refine SG.ent (?_ : Ent _ (Dsk b (D.stepped (ts.take i)) :: L1)) ?_
   ·
    refine Dsk.ent (ad := ad) (c := c) (bm := bm) ?_
    refine Ent.cons pickX ?_
    refine Ent.cons pickX ?_
    refine Pend.ent hx ?_
    exact entX
   refine SG.skip ?_
   refine SG.inBlock ?_
   refine SG.region ?_
   refine RL.val (Wanted.free rfl) (V.bin rfl rfl rfl (B.addI (by omega) (by omega))) rfl ?_
   refine RL.val (Wanted.free rfl) (V.move rfl rfl) rfl ?_
   refine RL.nil ?_
   have htk : ts.take (i + 1) = ts.take i ++ [ts[i]] := by rw [List.take_add_one, List.getElem?_eq_getElem (by omega)]; rfl
   refine SG.weaken (ih0 _ _ _ ?_ ⟨i + 1, by omega, rfl, rfl, rfl⟩) ?_ ?_
   ·
    omega
   ·
    repeat (first | exact EnvLe.nil _ | refine EnvLe.cons rfl ?_)
   ·
    rw [htk, hstep]
    exact entX
 ·
  refine RL.nil ?_
  refine SG.seq ?_
  refine SG.cond_false rfl ?_
  refine SG.exit rfl ?_
  refine SG.seq ?_
  have hall : ts.take i = ts := by rw [show i = ts.length from by omega, List.take_length]
  rw [hall]
  have hDs := hD.stepped hm1 ts
  refine SG.openDsk (b := b) pickX fun ad c bm => ?_
  refine SG.openPend pickX fun xs hx => ?_
  refine SG.region ?_
  refine RL.val (Wanted.free rfl) (V.move rfl rfl) rfl ?_
  refine RL.val (Wanted.free rfl) (V.nilCheck rfl rfl) rfl ?_
  refine RL.val (Wanted.free rfl) (V.fieldAddr rfl rfl fo95_1) rfl ?_
  refine RL.val (Wanted.free rfl) (V.load rfl on93 rfl pickX rfl) rfl ?_
  refine RL.eff (Wanted.free rfl) (E.clearMap rfl rfl rfl mt93 rfl pickX) rfl ?_
  rintro _ _ ⟨rfl, rfl⟩
  refine RL.nil ?_
  refine SG.region ?_
  refine RL.val (Wanted.free rfl) (V.move rfl rfl) rfl ?_
  refine RL.val (Wanted.free rfl) (V.move rfl rfl) rfl ?_
  refine RL.val (Wanted.free rfl) (V.nilCheck rfl rfl) rfl ?_
  refine RL.val (Wanted.free rfl) (V.fieldAddr rfl rfl fo95_2) rfl ?_
  refine RL.eff (Wanted.free rfl) (E.store1 rfl rfl rfl rfl rfl sz4 pickX rfl) rfl ?_
  rintro _ _ rfl
  refine RL.val (Wanted.free rfl) (V.nilCheck rfl rfl) rfl ?_
  refine RL.val (Wanted.free rfl) (V.fieldAddr rfl rfl fo95_3) rfl ?_
  refine RL.eff (Wanted.free rfl) (E.store1 rfl rfl rfl rfl rfl sz3 pickX rfl) rfl ?_
  rintro _ _ rfl
  refine RL.nil ?_
  have e1 : (D.restart ts).S.length = (D.stepped ts).S.length := by simp [Dk.restart, Dk.stepped]
  have e2 : (D.restart ts).S.map hd = (D.stepped ts).S.map hd := by simp [Dk.restart, Dk.stepped, hd]
  refine SG.doneE (Ret.none Tryd.func40 rfl) ?_ ⟨rfl, rfl⟩
  refine Dsk.ent (ad := ad) (c := c) (bm := bm) ?_
  rw [e1, e2]
  refine Ent.cons pickX ?_
  refine Ent.cons pickX ?_
  refine Pend.ent (Pnd.none fun l hl => by obtain ⟨l0, _, rfl⟩ := List.mem_map.1 hl; rfl) ?_
  exact Ent.cons pickX (Ent.trans (by repeat (first | exact Ent.refl _ | (apply Ent.cons; (· repeat (first | exact Pick.here | (refine Pick.sl ?_; (· repeat (first | exact List.Mem.head _ | assumption | apply List.Mem.tail))) | apply Pick.there))) | (refine Ent.trans (Ent.drop _ _) ?_))) Each.nil)

end Go.Proofs.YtcbloadpffjkiaaDoor
