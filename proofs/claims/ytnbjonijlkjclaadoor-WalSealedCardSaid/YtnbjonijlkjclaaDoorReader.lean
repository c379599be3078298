/- The reader. -/
import Derived.Test.YtnbjonijlkjclaaDoorWriter
import Derived.Test.YtnbjonijlkjclaaDoorPlain2
namespace Go.Proofs.YtnbjonijlkjclaaDoor
open Go.Wk Go.Wire

/-- A reader at block b: the bytes that are left, the error. -/
def Rdr (b : Nat) (l : List UInt8) (e : Int) : Assn := Ex fun (x : Option Addr × Nat × Nat) => [Blk b 86 [.slice x.1 x.2.1 x.2.2, vI e], Sl R8 x.1 x.2.1 x.2.2 l]
section
variable {P : Program} {f : FuncId} {n : Nat} {κ : World} {K : Post} {k : List Item} {L L1 : List Assn} {al : List (Nat × Value)} {b : Nat} {l : List UInt8} {e : Int} {ops : Array Oper} {rest : List Oper}
theorem Rdr.close {a : Option Addr} {m c : Nat} : Ent (Blk b 86 [.slice a m c, vI e] :: Sl R8 a m c l :: L) (Rdr b l e :: L) := Ex.close (ι := Option Addr × Nat × Nat) (A := fun x => [Blk b 86 [.slice x.1 x.2.1 x.2.2, vI e], Sl R8 x.1 x.2.1 x.2.2 l]) (a, m, c)
theorem Rdr.ent {L' : List Assn} {a : Option Addr} {m c : Nat} (h : Ent L' (Blk b 86 [.slice a m c, vI e] :: Sl R8 a m c l :: L)) : Ent L' (Rdr b l e :: L) := h.trans Rdr.close
theorem SG.openRdr (hp : Pick (Rdr b l e) L L1) (h : ∀ a m c, l.length = m → m ≤ c → c ≤ 9223372036854775807 → SG P f n κ K k al (Blk b 86 [.slice a m c, vI e] :: Sl R8 a m c l :: L1)) : SG P f n κ K k al L :=
  SG.openEx (ι := Option Addr × Nat × Nat) (A := fun x => [Blk b 86 [.slice x.1 x.2.1 x.2.2, vI e], Sl R8 x.1 x.2.1 x.2.2 l]) hp fun _ => SG.sl (List.Mem.tail _ (List.Mem.head _)) fun h1 h2 h3 => h _ _ _ h1 h2 h3
end
set_option maxRecDepth 100000 in
theorem fail_ok {κ : World} {L : List Assn} {L1 : List Assn} {b E0 : Nat} {x : Value} {e : Int} (f : Int) (hp : Pick (Blk b E0 [x, vI e]) L L1) :
    Ctr Tryd.prog 39 #[ptr b 0, vI f] κ L (fun v M => v = .tuple #[] ∧ M = Blk b E0 [x, vI (if e = 0 then f else e)] :: L1) := by
 refine Ctr.enter (vs := [ptr b 0, vI f]) (m := 13) Tryd.func39 rfl rfl rfl ?_
 refine SG.ent hp ?_
 refine SG.seq ?_
 refine SG.region ?_
 refine RL.val (Wanted.free rfl) (V.move rfl rfl) rfl ?_
 refine RL.val (Wanted.free rfl) (V.nilCheck rfl rfl) rfl ?_
 refine RL.val (Wanted.free rfl) (V.fieldAddr rfl rfl fo84_1) rfl ?_
 refine RL.val (Wanted.free rfl) (V.load rfl on38 rfl pickX rfl) rfl ?_
 refine RL.cmp (Wanted.free rfl) (V.bin rfl rfl rfl B.eql) rfl (fun h5 => ?_) (fun h5 => ?_)
 ·
  refine RL.nil ?_
  refine SG.cond_true rfl ?_
  refine SG.region ?_
  refine RL.val (Wanted.free rfl) (V.move rfl rfl) rfl ?_
  refine RL.val (Wanted.free rfl) (V.move rfl rfl) rfl ?_
  refine RL.val (Wanted.free rfl) (V.nilCheck rfl rfl) rfl ?_
  refine RL.val (Wanted.free rfl) (V.fieldAddr rfl rfl fo84_1) rfl ?_
  refine RL.eff (Wanted.free rfl) (E.store1 rfl rfl rfl rfl rfl sz38 pickX rfl) rfl ?_
  rintro _ _ rfl
  refine RL.nil ?_
  refine SG.doneE (Ret.none Tryd.func39 rfl) ?_ ⟨rfl, rfl⟩
  rw [if_pos (by assumption)]
  exact entX
 ·
  refine RL.nil ?_
  refine SG.cond_false rfl ?_
  refine SG.skip ?_
  refine SG.doneE (Ret.none Tryd.func39 rfl) ?_ ⟨rfl, rfl⟩
  rw [if_neg (by assumption)]
  exact entX

theorem rFail_ok {κ : World} {L L1 : List Assn} {b : Nat} {l : List UInt8} {e : Int} (f : Int) (hp : Pick (Rdr b l e) L L1) : Ctr Tryd.prog 39 #[ptr b 0, vI f] κ L (fun v M => v = .tuple #[] ∧ M = Rdr b l (if e = 0 then f else e) :: L1) :=
  Ctr.openEx hp fun x => (fail_ok (E0 := 86) f (L1 := Sl R8 x.1 x.2.1 x.2.2 l :: L1) Pick.here).post (Ent.refl _) fun v M h => ⟨_, ⟨h.1, rfl⟩, by rw [h.2]; exact Rdr.close⟩

set_option maxRecDepth 100000 in
theorem rUint_ok {κ : World} {L : List Assn} {L1 : List Assn} {b : Nat} {l : List UInt8} {e : Int} (hp : Pick (Rdr b l e) L L1) :
    Ctr Tryd.prog 50 #[ptr b 0] κ L (fun v M => v = v64 (rdU l e).2.2 ∧ M = Rdr b (rdU l e).1 (rdU l e).2.1 :: L1) := by
 refine Ctr.enter (vs := [ptr b 0]) (m := 82) Tryd.func50 rfl rfl rfl ?_
 refine SG.openRdr hp fun a m c hl hmc hc => ?_
 subst hl
 refine SG.seq ?_
 refine SG.region ?_
 refine RL.val (Wanted.free rfl) (V.assign rfl rfl) rfl ?_
 refine RL.nil ?_
 refine SG.scope ?_
 refine SG.seq ?_
 refine SG.seq ?_
 refine SG.region ?_
 refine RL.val (Wanted.free rfl) (V.move rfl rfl) rfl ?_
 refine RL.val (Wanted.free rfl) (V.nilCheck rfl rfl) rfl ?_
 refine RL.val (Wanted.free rfl) (V.fieldAddr rfl rfl fo86_0) rfl ?_
 refine RL.val (Wanted.free rfl) (V.fieldAddr rfl rfl fo84_1) rfl ?_
 refine RL.val (Wanted.free rfl) (V.load rfl on38 rfl pickX rfl) rfl ?_
 refine RL.cmp (Wanted.free rfl) (V.bin rfl rfl rfl B.neq) rfl (fun h7 => ?_) (fun h7 => ?_)
 ·
  refine RL.nil ?_
  refine SG.cond_true rfl ?_
  refine SG.seq ?_
  refine SG.region ?_
  refine RL.val (Wanted.free rfl) (V.assign rfl rfl) rfl ?_
  refine RL.nil ?_
  refine SG.retE (Ret.r1 Tryd.func50 rfl (.tmp rfl)) ?_ ⟨(congrArg (fun r : List UInt8 × Int × UInt64 => v64 r.2.2) (rdU_err (by omega))).symm, rfl⟩
  rw [rdU_err (by omega)]
  apply Rdr.ent
  exact entX
 ·
  refine RL.nil ?_
  refine SG.cond_false rfl ?_
  refine SG.skip ?_
  refine SG.seq ?_
  refine SG.region ?_
  refine RL.val (Wanted.free rfl) (V.assign rfl rfl) rfl ?_
  refine RL.nil ?_
  refine SG.seq ?_
  refine SG.region ?_
  refine RL.val (Wanted.free rfl) (V.assign rfl rfl) rfl ?_
  refine RL.nil ?_
  refine SG.seq ?_
  refine SG.label ?_
  refine SG.seq ?_
  refine SG.block ?_
  have he0 : e = 0 := by omega
  subst he0
  refine SG.weaken (SG.loop2 (fun m al M => ∃ i : Nat, i ≤ 10 ∧ i ≤ l.length ∧ (∀ j (h : j < l.length), j < i → 128 ≤ l[j].toNat) ∧ m = 10 - i ∧ al = [(0, ptr b 0), (3, v64 (UInt64.ofNat (val (l.take i)))), (4, vI i)] ∧ M = Blk b 86 [.slice a l.length c, vI 0] :: Sl R8 a l.length c l :: L1) (m0 := _) ⟨0, by omega, by omega, fun j _ h => by omega, rfl, rfl, rfl⟩ ?_) ?_ ?_
  rotate_left
  ·
   repeat (first | exact EnvLe.nil _ | refine EnvLe.cons rfl ?_)
  ·
   exact entX
  rintro _ _ _ ⟨i, hi10, hil, hall, rfl, rfl, rfl⟩ ih0
  refine SG.block ?_
  refine SG.seq ?_
  refine SG.block ?_
  refine SG.seq ?_
  refine SG.region ?_
  refine RL.val (Wanted.free rfl) (V.move rfl rfl) rfl ?_
  refine RL.cmp (Wanted.free rfl) (V.bin rfl rfl rfl B.eql) rfl (fun h12 => ?_) (fun h12 => ?_)
  ·
   refine RL.val (Wanted.free rfl) (V.assign rfl rfl) rfl ?_
   refine RL.nil ?_
   refine SG.cond_true rfl ?_
   refine SG.seq ?_
   refine SG.region ?_
   refine RL.val (Wanted.free rfl) (V.move rfl rfl) rfl ?_
   refine RL.val (Wanted.free rfl) (V.nilCheck rfl rfl) rfl ?_
   refine RL.val (Wanted.free rfl) (V.fieldAddr rfl rfl fo86_0) rfl ?_
   refine RL.eff (Wanted.free rfl) (E.call rfl go39 rfl (fail_ok _ pickX)) rfl ?_
   rintro _ _ ⟨rfl, rfl⟩
   rw [if_pos rfl]
   refine RL.nil ?_
   refine SG.seq ?_
   refine SG.region ?_
   refine RL.val (Wanted.free rfl) (V.assign rfl rfl) rfl ?_
   refine RL.nil ?_
   have hlead : lead 10 l = 10 := lead_eq (by omega) (by omega) (fun j h hj => hall j h (by omega)) (.inl rfl)
   refine SG.retE (Ret.r1 Tryd.func50 rfl (.tmp rfl)) ?_ ⟨(congrArg (fun r : List UInt8 × Int × UInt64 => v64 r.2.2) (rdU_ten hlead)).symm, rfl⟩
   rw [rdU_ten hlead]
   apply Rdr.ent
   exact entX
  ·
   refine RL.val (Wanted.free rfl) (V.assign rfl rfl) rfl ?_
   refine RL.nil ?_
   refine SG.cond_false rfl ?_
   refine SG.seq ?_
   refine SG.region ?_
   refine RL.val (Wanted.free rfl) (V.move rfl rfl) rfl ?_
   refine RL.val (Wanted.free rfl) (V.move rfl rfl) rfl ?_
   refine RL.val (Wanted.free rfl) (V.nilCheck rfl rfl) rfl ?_
   refine RL.val (Wanted.free rfl) (V.fieldAddr rfl rfl fo86_0) rfl ?_
   refine RL.val (Wanted.free rfl) (V.fieldAddr rfl rfl fo84_0) rfl ?_
   refine RL.val (Wanted.free rfl) (V.load rfl on34 rfl pickX rfl) rfl ?_
   refine RL.val (Wanted.free rfl) (V.len rfl rfl el34.under rfl) rfl ?_
   refine RL.cmp (Wanted.free rfl) (V.bin rfl rfl rfl B.eql) rfl (fun h27 => ?_) (fun h27 => ?_)
   ·
    refine RL.val (Wanted.free rfl) (V.assign rfl rfl) rfl ?_
    refine RL.nil ?_
    refine SG.cond_true rfl ?_
    refine SG.seq ?_
    refine SG.region ?_
    refine RL.val (Wanted.free rfl) (V.move rfl rfl) rfl ?_
    refine RL.val (Wanted.free rfl) (V.nilCheck rfl rfl) rfl ?_
    refine RL.val (Wanted.free rfl) (V.fieldAddr rfl rfl fo86_0) rfl ?_
    refine RL.eff (Wanted.free rfl) (E.call rfl go39 rfl (fail_ok _ pickX)) rfl ?_
    rintro _ _ ⟨rfl, rfl⟩
    rw [if_pos rfl]
    refine RL.nil ?_
    refine SG.seq ?_
    refine SG.region ?_
    refine RL.val (Wanted.free rfl) (V.assign rfl rfl) rfl ?_
    refine RL.nil ?_
    have hlead : lead 10 l = i := lead_eq (by omega) hil hall (.inr (.inl (by omega)))
    refine SG.retE (Ret.r1 Tryd.func50 rfl (.tmp rfl)) ?_ ⟨(congrArg (fun r : List UInt8 × Int × UInt64 => v64 r.2.2) (rdU_short hlead (by omega) (by omega))).symm, rfl⟩
    rw [rdU_short hlead (by omega) (by omega)]
    apply Rdr.ent
    exact entX
   ·
    refine RL.val (Wanted.free rfl) (V.assign rfl rfl) rfl ?_
    refine RL.nil ?_
    refine SG.cond_false rfl ?_
    refine SG.skip ?_
    refine SG.inBlock ?_
    refine SG.seq ?_
    refine SG.region ?_
    refine RL.val (Wanted.free rfl) (V.move rfl rfl) rfl ?_
    refine RL.val (Wanted.free rfl) (V.nilCheck rfl rfl) rfl ?_
    refine RL.val (Wanted.free rfl) (V.fieldAddr rfl rfl fo86_0) rfl ?_
    refine RL.val (Wanted.free rfl) (V.fieldAddr rfl rfl fo84_0) rfl ?_
    refine RL.val (Wanted.free rfl) (V.load rfl on34 rfl pickX rfl) rfl ?_
    refine RL.val (Wanted.free rfl) (V.move rfl rfl) rfl ?_
    refine RL.val (Wanted.free rfl) (V.indexSl rfl el34.slice rfl rfl memX (by first | rfl | omega) (by omega)) rfl ?_
    refine RL.val (Wanted.free rfl) (V.loadSc rfl on5 rfl memX (List.getElem?_eq_getElem (by omega))) rfl ?_
    refine RL.val (Wanted.free rfl) (V.assign rfl rfl) rfl ?_
    refine RL.nil ?_
    refine SG.seq ?_
    refine SG.region ?_
    refine RL.val (Wanted.free rfl) (V.move rfl rfl) rfl ?_
    refine RL.val (Wanted.free rfl) (V.move rfl rfl) rfl ?_
    refine RL.val (Wanted.free rfl) (V.bin rfl rfl rfl (B.and8 (y := 127))) rfl ?_
    refine RL.val (Wanted.free rfl) (V.to64 rfl ⟨_, ui5⟩ ui59 rfl) rfl ?_
    refine RL.val (Wanted.free rfl) (V.move rfl rfl) rfl ?_
    refine RL.val (Wanted.free rfl) (V.bin rfl rfl rfl (B.mulI (by omega) (by omega))) rfl ?_
    refine RL.val (Wanted.free rfl) (V.bin rfl rfl rfl (B.shl64 (UInt64.ofNat (2 ^ (7 * i))) (by omega) (by rw [UInt64.toNat_ofNat', show (7 * (i : Int)).toNat = 7 * i from by omega, show min (7 * i) 64 = 7 * i from by omega]; exact Nat.mod_eq_of_lt (Nat.pow_lt_pow_right (by decide) (by omega))))) rfl ?_
    refine RL.val (Wanted.free rfl) (V.bin rfl rfl rfl (B.or64)) rfl ?_
    rw [or_group (by rw [List.length_take]; omega) (by omega), show l.take i ++ [l[i]] = l.take (i + 1) from by rw [List.take_add_one, List.getElem?_eq_getElem (by omega)]; rfl]
    refine RL.val (Wanted.free rfl) (V.assign rfl rfl) rfl ?_
    refine RL.nil ?_
    refine SG.seq ?_
    refine SG.region ?_
    refine RL.val (Wanted.free rfl) (V.move rfl rfl) rfl ?_
    refine RL.val (Wanted.free rfl) (V.bin rfl rfl rfl (B.addI (by omega) (by omega))) rfl ?_
    refine RL.val (Wanted.free rfl) (V.assign rfl rfl) rfl ?_
    refine RL.nil ?_
    refine SG.seq ?_
    refine SG.region ?_
    refine RL.val (Wanted.free rfl) (V.move rfl rfl) rfl ?_
    refine RL.cmp (Wanted.free rfl) (V.bin rfl rfl rfl B.lss) rfl (fun h57 => ?_) (fun h57 => ?_)
    ·
     refine RL.nil ?_
     refine SG.cond_true rfl ?_
     refine SG.seq ?_
     refine SG.seq ?_
     refine SG.region ?_
     refine RL.val (Wanted.free rfl) (V.move rfl rfl) rfl ?_
     refine RL.cmp (Wanted.free rfl) (V.bin rfl rfl rfl B.eql) rfl (fun h59 => ?_) (fun h59 => ?_)
     ·
      refine RL.val (Wanted.free rfl) (V.move rfl rfl) rfl ?_
      refine RL.val (Wanted.yes rfl rfl rfl rfl) (V.move rfl rfl) rfl ?_
      refine RL.cmp (Wanted.yes rfl rfl rfl rfl) (V.bin rfl rfl rfl B.gtr) rfl (fun h62 => ?_) (fun h62 => ?_)
      ·
       refine RL.val (Wanted.free rfl) (V.pick_true rfl rfl rfl) rfl ?_
       refine RL.val (Wanted.free rfl) (V.move rfl rfl) rfl ?_
       refine RL.skip (Wanted.no rfl rfl rfl rfl rfl) rfl ?_
       refine RL.skip (Wanted.no rfl rfl rfl rfl rfl) rfl ?_
       refine RL.skip (Wanted.no rfl rfl rfl rfl rfl) rfl ?_
       refine RL.skip (Wanted.un rfl rfl rfl) rfl ?_
       refine RL.skip (Wanted.un rfl rfl rfl) rfl ?_
       refine RL.skip (Wanted.no rfl rfl rfl rfl rfl) rfl ?_
       refine RL.val (Wanted.free rfl) (V.pick_true rfl rfl rfl) rfl ?_
       refine RL.nil ?_
       refine SG.cond_true rfl ?_
       refine SG.seq ?_
       refine SG.region ?_
       refine RL.val (Wanted.free rfl) (V.move rfl rfl) rfl ?_
       refine RL.val (Wanted.free rfl) (V.nilCheck rfl rfl) rfl ?_
       refine RL.val (Wanted.free rfl) (V.fieldAddr rfl rfl fo86_0) rfl ?_
       refine RL.eff (Wanted.free rfl) (E.call rfl go39 rfl (fail_ok _ pickX)) rfl ?_
       rintro _ _ ⟨rfl, rfl⟩
       rw [if_pos rfl]
       refine RL.nil ?_
       refine SG.seq ?_
       refine SG.region ?_
       refine RL.val (Wanted.free rfl) (V.assign rfl rfl) rfl ?_
       refine RL.nil ?_
       have hlead : lead 10 l = i := lead_eq (by omega) hil hall (.inr (.inr ⟨by omega, by omega⟩))
       refine SG.retE (Ret.r1 Tryd.func50 rfl (.tmp rfl)) ?_ ⟨(congrArg (fun r : List UInt8 × Int × UInt64 => v64 r.2.2) (rdU_form hlead (by omega) (by omega) (by omega))).symm, rfl⟩
       rw [rdU_form hlead (by omega) (by omega) (by omega)]
       apply Rdr.ent
       exact entX
      ·
       refine RL.val (Wanted.free rfl) (V.pick_true rfl rfl rfl) rfl ?_
       refine RL.val (Wanted.free rfl) (V.move rfl rfl) rfl ?_
       refine RL.val (Wanted.yes rfl rfl rfl rfl) (V.move rfl rfl) rfl ?_
       refine RL.cmp (Wanted.yes rfl rfl rfl rfl) (V.bin rfl rfl rfl B.gtr) rfl (fun h71 => ?_) (fun h71 => ?_)
       ·
        refine RL.val (Wanted.yes rfl rfl rfl rfl) (V.move rfl rfl) rfl ?_
        refine RL.val (Wanted.yes rfl rfl rfl rfl) (V.move rfl rfl) rfl ?_
        refine RL.cmp (Wanted.yes rfl rfl rfl rfl) (V.bin rfl rfl rfl B.eql) rfl (fun h74 => ?_) (fun h74 => ?_)
        ·
         refine RL.val (Wanted.yes rfl rfl rfl rfl) (V.pick_true rfl rfl rfl) rfl ?_
         refine RL.val (Wanted.free rfl) (V.pick_false rfl rfl rfl) rfl ?_
         refine RL.nil ?_
         refine SG.cond_true rfl ?_
         refine SG.seq ?_
         refine SG.region ?_
         refine RL.val (Wanted.free rfl) (V.move rfl rfl) rfl ?_
         refine RL.val (Wanted.free rfl) (V.nilCheck rfl rfl) rfl ?_
         refine RL.val (Wanted.free rfl) (V.fieldAddr rfl rfl fo86_0) rfl ?_
         refine RL.eff (Wanted.free rfl) (E.call rfl go39 rfl (fail_ok _ pickX)) rfl ?_
         rintro _ _ ⟨rfl, rfl⟩
         rw [if_pos rfl]
         refine RL.nil ?_
         refine SG.seq ?_
         refine SG.region ?_
         refine RL.val (Wanted.free rfl) (V.assign rfl rfl) rfl ?_
         refine RL.nil ?_
         have hlead : lead 10 l = i := lead_eq (by omega) hil hall (.inr (.inr ⟨by omega, by omega⟩))
         refine SG.retE (Ret.r1 Tryd.func50 rfl (.tmp rfl)) ?_ ⟨(congrArg (fun r : List UInt8 × Int × UInt64 => v64 r.2.2) (rdU_form hlead (by omega) (by omega) (by omega))).symm, rfl⟩
         rw [rdU_form hlead (by omega) (by omega) (by omega)]
         apply Rdr.ent
         exact entX
        ·
         refine RL.val (Wanted.yes rfl rfl rfl rfl) (V.pick_true rfl rfl rfl) rfl ?_
         refine RL.val (Wanted.free rfl) (V.pick_false rfl rfl rfl) rfl ?_
         refine RL.nil ?_
         refine SG.cond_false rfl ?_
         refine SG.skip ?_
         refine SG.exit rfl ?_
         refine SG.seq ?_
         refine SG.region ?_
         refine RL.val (Wanted.free rfl) (V.move rfl rfl) rfl ?_
         refine RL.val (Wanted.free rfl) (V.move rfl rfl) rfl ?_
         refine RL.val (Wanted.free rfl) (V.nilCheck rfl rfl) rfl ?_
         refine RL.val (Wanted.free rfl) (V.fieldAddr rfl rfl fo86_0) rfl ?_
         refine RL.val (Wanted.free rfl) (V.fieldAddr rfl rfl fo84_0) rfl ?_
         refine RL.val (Wanted.free rfl) (V.load rfl on34 rfl pickX rfl) rfl ?_
         refine RL.val (Wanted.free rfl) (V.move rfl rfl) rfl ?_
         refine RL.eff (Wanted.free rfl) (E.slice (lo := i + 1) (hi := l.length) rfl el34.slice rfl memX ⟨_, _, rfl, (by first | rfl | omega)⟩ rfl (by omega) (by omega)) rfl ?_
         intro _ _ hK87
         try rw [List.drop_zero] at hK87
         iterate 2 (try rw [Nat.sub_zero] at hK87)
         rw [show (l.drop (i + 1)).take (l.length - (i + 1)) = l.drop (i + 1) from List.take_of_length_le (by simp)] at hK87
         obtain ⟨a87, rfl, rfl⟩ := hK87
         refine RL.val (Wanted.free rfl) (V.nilCheck rfl rfl) rfl ?_
         refine RL.val (Wanted.free rfl) (V.fieldAddr rfl rfl fo86_0) rfl ?_
         refine RL.val (Wanted.free rfl) (V.fieldAddr rfl rfl fo84_0) rfl ?_
         refine RL.eff (Wanted.free rfl) (E.store1 rfl rfl rfl rfl rfl sz34 pickX rfl) rfl ?_
         rintro _ _ rfl
         refine RL.nil ?_
         refine SG.seq ?_
         refine SG.region ?_
         refine RL.val (Wanted.free rfl) (V.move rfl rfl) rfl ?_
         refine RL.val (Wanted.free rfl) (V.assign rfl rfl) rfl ?_
         refine RL.nil ?_
         have hlead : lead 10 l = i := lead_eq (by omega) hil hall (.inr (.inr ⟨by omega, by omega⟩))
         refine SG.retE (Ret.r1 Tryd.func50 rfl (.tmp rfl)) ?_ ⟨(congrArg (fun r : List UInt8 × Int × UInt64 => v64 r.2.2) (rdU_ok hlead (by omega) (by omega) (by omega))).symm, rfl⟩
         rw [rdU_ok hlead (by omega) (by omega) (by omega)]
         apply Rdr.ent
         exact entX
       ·
        refine RL.val (Wanted.yes rfl rfl rfl rfl) (V.move rfl rfl) rfl ?_
        refine RL.skip (Wanted.no rfl rfl rfl rfl rfl) rfl ?_
        refine RL.skip (Wanted.no rfl rfl rfl rfl rfl) rfl ?_
        refine RL.val (Wanted.yes rfl rfl rfl rfl) (V.pick_false rfl rfl rfl) rfl ?_
        refine RL.val (Wanted.free rfl) (V.pick_false rfl rfl rfl) rfl ?_
        refine RL.nil ?_
        refine SG.cond_false rfl ?_
        refine SG.skip ?_
        refine SG.exit rfl ?_
        refine SG.seq ?_
        refine SG.region ?_
        refine RL.val (Wanted.free rfl) (V.move rfl rfl) rfl ?_
        refine RL.val (Wanted.free rfl) (V.move rfl rfl) rfl ?_
        refine RL.val (Wanted.free rfl) (V.nilCheck rfl rfl) rfl ?_
        refine RL.val (Wanted.free rfl) (V.fieldAddr rfl rfl fo86_0) rfl ?_
        refine RL.val (Wanted.free rfl) (V.fieldAddr rfl rfl fo84_0) rfl ?_
        refine RL.val (Wanted.free rfl) (V.load rfl on34 rfl pickX rfl) rfl ?_
        refine RL.val (Wanted.free rfl) (V.move rfl rfl) rfl ?_
        refine RL.eff (Wanted.free rfl) (E.slice (lo := i + 1) (hi := l.length) rfl el34.slice rfl memX ⟨_, _, rfl, (by first | rfl | omega)⟩ rfl (by omega) (by omega)) rfl ?_
        intro _ _ hK102
        try rw [List.drop_zero] at hK102
        iterate 2 (try rw [Nat.sub_zero] at hK102)
        rw [show (l.drop (i + 1)).take (l.length - (i + 1)) = l.drop (i + 1) from List.take_of_length_le (by simp)] at hK102
        obtain ⟨a102, rfl, rfl⟩ := hK102
        refine RL.val (Wanted.free rfl) (V.nilCheck rfl rfl) rfl ?_
        refine RL.val (Wanted.free rfl) (V.fieldAddr rfl rfl fo86_0) rfl ?_
        refine RL.val (Wanted.free rfl) (V.fieldAddr rfl rfl fo84_0) rfl ?_
        refine RL.eff (Wanted.free rfl) (E.store1 rfl rfl rfl rfl rfl sz34 pickX rfl) rfl ?_
        rintro _ _ rfl
        refine RL.nil ?_
        refine SG.seq ?_
        refine SG.region ?_
        refine RL.val (Wanted.free rfl) (V.move rfl rfl) rfl ?_
        refine RL.val (Wanted.free rfl) (V.assign rfl rfl) rfl ?_
        refine RL.nil ?_
        exfalso; omega
     ·
      refine RL.val (Wanted.free rfl) (V.move rfl rfl) rfl ?_
      refine RL.skip (Wanted.no rfl rfl rfl rfl rfl) rfl ?_
      refine RL.skip (Wanted.no rfl rfl rfl rfl rfl) rfl ?_
      refine RL.val (Wanted.free rfl) (V.pick_false rfl rfl rfl) rfl ?_
      refine RL.val (Wanted.free rfl) (V.move rfl rfl) rfl ?_
      refine RL.val (Wanted.yes rfl rfl rfl rfl) (V.move rfl rfl) rfl ?_
      refine RL.cmp (Wanted.yes rfl rfl rfl rfl) (V.bin rfl rfl rfl B.gtr) rfl (fun h112 => ?_) (fun h112 => ?_)
      ·
       refine RL.val (Wanted.yes rfl rfl rfl rfl) (V.move rfl rfl) rfl ?_
       refine RL.val (Wanted.yes rfl rfl rfl rfl) (V.move rfl rfl) rfl ?_
       refine RL.cmp (Wanted.yes rfl rfl rfl rfl) (V.bin rfl rfl rfl B.eql) rfl (fun h115 => ?_) (fun h115 => ?_)
       ·
        refine RL.val (Wanted.yes rfl rfl rfl rfl) (V.pick_true rfl rfl rfl) rfl ?_
        refine RL.val (Wanted.free rfl) (V.pick_false rfl rfl rfl) rfl ?_
        refine RL.nil ?_
        refine SG.cond_true rfl ?_
        refine SG.seq ?_
        refine SG.region ?_
        refine RL.val (Wanted.free rfl) (V.move rfl rfl) rfl ?_
        refine RL.val (Wanted.free rfl) (V.nilCheck rfl rfl) rfl ?_
        refine RL.val (Wanted.free rfl) (V.fieldAddr rfl rfl fo86_0) rfl ?_
        refine RL.eff (Wanted.free rfl) (E.call rfl go39 rfl (fail_ok _ pickX)) rfl ?_
        rintro _ _ ⟨rfl, rfl⟩
        rw [if_pos rfl]
        refine RL.nil ?_
        refine SG.seq ?_
        refine SG.region ?_
        refine RL.val (Wanted.free rfl) (V.assign rfl rfl) rfl ?_
        refine RL.nil ?_
        have hlead : lead 10 l = i := lead_eq (by omega) hil hall (.inr (.inr ⟨by omega, by omega⟩))
        refine SG.retE (Ret.r1 Tryd.func50 rfl (.tmp rfl)) ?_ ⟨(congrArg (fun r : List UInt8 × Int × UInt64 => v64 r.2.2) (rdU_form hlead (by omega) (by omega) (by omega))).symm, rfl⟩
        rw [rdU_form hlead (by omega) (by omega) (by omega)]
        apply Rdr.ent
        exact entX
       ·
        refine RL.val (Wanted.yes rfl rfl rfl rfl) (V.pick_true rfl rfl rfl) rfl ?_
        refine RL.val (Wanted.free rfl) (V.pick_false rfl rfl rfl) rfl ?_
        refine RL.nil ?_
        refine SG.cond_false rfl ?_
        refine SG.skip ?_
        refine SG.exit rfl ?_
        refine SG.seq ?_
        refine SG.region ?_
        refine RL.val (Wanted.free rfl) (V.move rfl rfl) rfl ?_
        refine RL.val (Wanted.free rfl) (V.move rfl rfl) rfl ?_
        refine RL.val (Wanted.free rfl) (V.nilCheck rfl rfl) rfl ?_
        refine RL.val (Wanted.free rfl) (V.fieldAddr rfl rfl fo86_0) rfl ?_
        refine RL.val (Wanted.free rfl) (V.fieldAddr rfl rfl fo84_0) rfl ?_
        refine RL.val (Wanted.free rfl) (V.load rfl on34 rfl pickX rfl) rfl ?_
        refine RL.val (Wanted.free rfl) (V.move rfl rfl) rfl ?_
        refine RL.eff (Wanted.free rfl) (E.slice (lo := i + 1) (hi := l.length) rfl el34.slice rfl memX ⟨_, _, rfl, (by first | rfl | omega)⟩ rfl (by omega) (by omega)) rfl ?_
        intro _ _ hK128
        try rw [List.drop_zero] at hK128
        iterate 2 (try rw [Nat.sub_zero] at hK128)
        rw [show (l.drop (i + 1)).take (l.length - (i + 1)) = l.drop (i + 1) from List.take_of_length_le (by simp)] at hK128
        obtain ⟨a128, rfl, rfl⟩ := hK128
        refine RL.val (Wanted.free rfl) (V.nilCheck rfl rfl) rfl ?_
        refine RL.val (Wanted.free rfl) (V.fieldAddr rfl rfl fo86_0) rfl ?_
        refine RL.val (Wanted.free rfl) (V.fieldAddr rfl rfl fo84_0) rfl ?_
        refine RL.eff (Wanted.free rfl) (E.store1 rfl rfl rfl rfl rfl sz34 pickX rfl) rfl ?_
        rintro _ _ rfl
        refine RL.nil ?_
        refine SG.seq ?_
        refine SG.region ?_
        refine RL.val (Wanted.free rfl) (V.move rfl rfl) rfl ?_
        refine RL.val (Wanted.free rfl) (V.assign rfl rfl) rfl ?_
        refine RL.nil ?_
        have hlead : lead 10 l = i := lead_eq (by omega) hil hall (.inr (.inr ⟨by omega, by omega⟩))
        refine SG.retE (Ret.r1 Tryd.func50 rfl (.tmp rfl)) ?_ ⟨(congrArg (fun r : List UInt8 × Int × UInt64 => v64 r.2.2) (rdU_ok hlead (by omega) (by omega) (by omega))).symm, rfl⟩
        rw [rdU_ok hlead (by omega) (by omega) (by omega)]
        apply Rdr.ent
        exact entX
      ·
       refine RL.val (Wanted.yes rfl rfl rfl rfl) (V.move rfl rfl) rfl ?_
       refine RL.skip (Wanted.no rfl rfl rfl rfl rfl) rfl ?_
       refine RL.skip (Wanted.no rfl rfl rfl rfl rfl) rfl ?_
       refine RL.val (Wanted.yes rfl rfl rfl rfl) (V.pick_false rfl rfl rfl) rfl ?_
       refine RL.val (Wanted.free rfl) (V.pick_false rfl rfl rfl) rfl ?_
       refine RL.nil ?_
       refine SG.cond_false rfl ?_
       refine SG.skip ?_
       refine SG.exit rfl ?_
       refine SG.seq ?_
       refine SG.region ?_
       refine RL.val (Wanted.free rfl) (V.move rfl rfl) rfl ?_
       refine RL.val (Wanted.free rfl) (V.move rfl rfl) rfl ?_
       refine RL.val (Wanted.free rfl) (V.nilCheck rfl rfl) rfl ?_
       refine RL.val (Wanted.free rfl) (V.fieldAddr rfl rfl fo86_0) rfl ?_
       refine RL.val (Wanted.free rfl) (V.fieldAddr rfl rfl fo84_0) rfl ?_
       refine RL.val (Wanted.free rfl) (V.load rfl on34 rfl pickX rfl) rfl ?_
       refine RL.val (Wanted.free rfl) (V.move rfl rfl) rfl ?_
       refine RL.eff (Wanted.free rfl) (E.slice (lo := i + 1) (hi := l.length) rfl el34.slice rfl memX ⟨_, _, rfl, (by first | rfl | omega)⟩ rfl (by omega) (by omega)) rfl ?_
       intro _ _ hK143
       try rw [List.drop_zero] at hK143
       iterate 2 (try rw [Nat.sub_zero] at hK143)
       rw [show (l.drop (i + 1)).take (l.length - (i + 1)) = l.drop (i + 1) from List.take_of_length_le (by simp)] at hK143
       obtain ⟨a143, rfl, rfl⟩ := hK143
       refine RL.val (Wanted.free rfl) (V.nilCheck rfl rfl) rfl ?_
       refine RL.val (Wanted.free rfl) (V.fieldAddr rfl rfl fo86_0) rfl ?_
       refine RL.val (Wanted.free rfl) (V.fieldAddr rfl rfl fo84_0) rfl ?_
       refine RL.eff (Wanted.free rfl) (E.store1 rfl rfl rfl rfl rfl sz34 pickX rfl) rfl ?_
       rintro _ _ rfl
       refine RL.nil ?_
       refine SG.seq ?_
       refine SG.region ?_
       refine RL.val (Wanted.free rfl) (V.move rfl rfl) rfl ?_
       refine RL.val (Wanted.free rfl) (V.assign rfl rfl) rfl ?_
       refine RL.nil ?_
       have hlead : lead 10 l = i := lead_eq (by omega) hil hall (.inr (.inr ⟨by omega, by omega⟩))
       refine SG.retE (Ret.r1 Tryd.func50 rfl (.tmp rfl)) ?_ ⟨(congrArg (fun r : List UInt8 × Int × UInt64 => v64 r.2.2) (rdU_ok hlead (by omega) (by omega) (by omega))).symm, rfl⟩
       rw [rdU_ok hlead (by omega) (by omega) (by omega)]
       apply Rdr.ent
       exact entX
    ·
     refine RL.nil ?_
     refine SG.cond_false rfl ?_
     refine SG.skip ?_
     refine SG.inBlock ?_
     refine SG.weaken (ih0 _ _ _ ?_ ⟨i + 1, by omega, by omega, ?_, rfl, rfl, rfl⟩) ?_ ?_
     ·
      omega
     ·
      intro j h1 h2
      by_cases hj : j < i
      ·
       exact hall j h1 hj
      ·
       have : j = i := by omega
       subst this; omega
     ·
      repeat (first | exact EnvLe.nil _ | refine EnvLe.cons rfl ?_)
     ·
      exact entX

set_option maxRecDepth 100000 in
theorem newReader_ok {κ : World} {L : List Assn} {a : Option Addr} {m c : Nat} {l : List UInt8} (hsrc : Src Tryd.prog L R8 (.slice a m c) l) (hl : l.length = m) (hn : a = none → m = 0) (hb : m ≤ 100000000000) :
    Ctr Tryd.prog 17 #[.slice a m c] κ L (fun v M => ∃ b, v = ptr b 0 ∧ M = Rdr b l 0 :: L) := by
 refine Ctr.enter (vs := [.slice a m c]) (m := 8) Tryd.func17 rfl rfl rfl ?_
 refine SG.seq ?_
 refine SG.region ?_
 refine RL.val (Wanted.free rfl) (V.assign rfl rfl) rfl ?_
 refine RL.nil ?_
 refine SG.seq ?_
 refine SG.region ?_
 refine RL.val (Wanted.free rfl) (V.move rfl rfl) rfl ?_
 refine RL.eff (Wanted.free rfl) (E.call rfl go37 rfl (clonew_ok hsrc hl hn hb)) rfl ?_
 rintro _ _ ⟨a2, c2, rfl, rfl⟩
 refine RL.publish pickX ?_
 refine RL.val (Wanted.free rfl) (V.buildS [(0, _)] rfl bs84 (by exact ⟨rfl, ⟨_, rfl, rfl⟩, trivial⟩) rfl) rfl ?_
 refine RL.val (Wanted.free rfl) (V.buildS [(0, [.slice a2 m c2, vI 0])] rfl bs86 (by exact ⟨rfl, ⟨_, rfl, rfl⟩, trivial⟩) rfl) rfl ?_
 refine RL.eff (Wanted.free rfl) (E.box _ rfl rfl rfl) rfl ?_
 rintro _ _ ⟨b6, rfl, rfl⟩
 refine RL.val (Wanted.free rfl) (V.assign rfl rfl) rfl ?_
 refine RL.nil ?_
 refine SG.retE (Ret.r1 Tryd.func17 rfl (.tmp rfl)) ?_ ⟨_, rfl, rfl⟩
 apply Rdr.ent
 exact entX

theorem newReader_sl {κ : World} {L : List Assn} {a : Option Addr} {m c : Nat} {l : List UInt8} (hm : Sl R8 a m c l ∈ L) (hb : l.length ≤ 1000000000) : Ctr Tryd.prog 17 #[.slice a m c] κ L (fun v M => ∃ b, v = ptr b 0 ∧ M = Rdr b l 0 :: L) :=
  Ctr.fact (p := l.length = m ∧ (a = none → m = 0)) (fun _ hs => ⟨hs.slLen hm, hs.slN hm⟩) fun h => newReader_ok (Src.sl (by decide) hm) h.1 h.2 (by omega)
theorem newReader_buf {κ : World} {L L1 : List Assn} {a : Option Addr} {m c e : Nat} {l : List UInt8} (hp : Pick (Buf R8 e a m c l) L L1) (hb : l.length ≤ 1000000000) : Ctr Tryd.prog 17 #[.slice a m c] κ L (fun v M => ∃ b, v = ptr b 0 ∧ M = Rdr b l 0 :: L) :=
  Ctr.fact (p := l.length = m ∧ (a = none → m = 0)) (fun _ hs => ⟨hs.bufLen hp, hs.bufN hp⟩) fun h => newReader_ok (Src.buf (by decide) hp) h.1 h.2 (by omega)
end Go.Proofs.YtnbjonijlkjclaaDoor
