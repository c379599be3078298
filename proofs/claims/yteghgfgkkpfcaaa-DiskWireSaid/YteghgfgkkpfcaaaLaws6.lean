/- The statement on numbers that are laid over the sectors. -/
import Derived.Test.YteghgfgkkpfcaaaLaws4
import Derived.Test.YteghgfgkkpfcaaaDPlain6
import Derived.Test.YteghgfgkkpfcaaaReaderb
import Derived.Test.YteghgfgkkpfcaaaPlain3
namespace Go.Proofs.Yteghgfgkkpfcaaa
open Go.Wk Go.Dsk Go.Wire

theorem Sep.slInts {κ w : World} {L : List Assn} {a : Option Addr} {m c : Nat} {l : List Int} (hs : Sep κ w L) (hm : Sl RI a m c l ∈ L) : ∀ x ∈ l, inInt x := by
  obtain ⟨z, _, k1, _, _, k4⟩ := hs.sl hm
  rcases k4 with k4 | ⟨_, _, _, _, _, hr⟩
  · intro x hx
    have : l = [] := List.eq_nil_of_length_eq_zero (by omega)
    rw [this] at hx; cases hx
  · exact (rows_sc.1 hr).2
theorem encInts_length (l : List Int) : (encInts l).length ≤ 10 * l.length + 10 := by
  have h1 := encList_length l
  have h2 := (enc_length (UInt64.ofNat l.length)).1
  simp only [encInts, List.length_append]; omega

set_option maxRecDepth 100000 in
set_option maxHeartbeats 2000000 in
theorem wire_law {κ : World} {L : List Assn} {a a1 a2 : Option Addr} {n0 c n1 c1 n2 c2 : Nat} {l : List Int} {os : List OpD} {ts : List Torn} (hm : Sl RI a n0 c l ∈ L) (hmo : Sl ROp a1 n1 c1 os ∈ L) (hmt : Sl RTorn a2 n2 c2 ts ∈ L) :
    Ctr Try.prog 11 #[.slice a n0 c, .slice a1 n1 c1, .slice a2 n2 c2] κ L (fun v M => v = vB true ∧ M = L) := by
  refine Ctr.enter (vs := [.slice a n0 c, .slice a1 n1 c1, .slice a2 n2 c2]) (m := 144) Try.func11 rfl rfl rfl ?_
  refine SG.sl hm fun hl hlc hlc63 => ?_
  refine SG.sl hmo fun hol holc hoc => ?_
  subst hol
  refine SG.sl hmt fun htl htlc htc => ?_
  subst htl
  refine SG.fact (fun w hs => Sep.slInts hs hm) fun hin => ?_
  have hints : ∀ x ∈ l.take (Int.toNat 30), inInt x := fun x hx => hin x (List.mem_of_mem_take hx)
  have h30 : (l.take (Int.toNat 30)).length ≤ 30 := by rw [List.length_take]; have : Int.toNat 30 = 30 := rfl; omega
  obtain ⟨ls, hls⟩ : ∃ ls, l.take (Int.toNat 30) = ls := ⟨_, rfl⟩
  rw [hls] at hints h30
  have hB5 : (encInts ls).length ≤ 512 := by have := encInts_length ls; omega
  have hdec := rdIs_enc (most := 30) (by omega) (by decide) (fun x hx => hints x hx) ([] : List UInt8)
  rw [List.append_nil] at hdec
  obtain ⟨bs, hB⟩ : ∃ bs, encInts ls = bs := ⟨_, rfl⟩
  rw [hB] at hB5 hdec
  refine SG.seq ?_
  refine SG.region ?_
  refine RL.val (Wanted.free rfl) (V.assign rfl rfl) rfl ?_
  refine RL.nil ?_
  refine SG.seq ?_
  refine SG.region ?_
  refine RL.eff (Wanted.free rfl) (E.call rfl go19 rfl (dNew_ok (n := 16) (by decide) (by decide))) rfl ?_
  rintro _ _ ⟨b21, rfl, rfl⟩
  refine RL.val (Wanted.free rfl) (V.move rfl rfl) rfl ?_
  refine RL.val (Wanted.free rfl) (V.extract rfl rfl rfl) rfl ?_
  refine RL.val (Wanted.free rfl) (V.extract rfl rfl rfl) rfl ?_
  refine RL.val (Wanted.free rfl) (V.assign rfl rfl) rfl ?_
  refine RL.val (Wanted.free rfl) (V.assign rfl rfl) rfl ?_
  refine RL.nil ?_
  refine SG.seq ?_
  refine SG.seq ?_
  refine SG.region ?_
  refine RL.val (Wanted.free rfl) (V.move rfl rfl) rfl ?_
  refine RL.cmpF (Wanted.free rfl) (V.eqlPtrNil rfl up23 rfl rfl) rfl (by simp) ?_
  refine RL.val (Wanted.free rfl) (V.move rfl rfl) rfl ?_
  refine RL.val (Wanted.yes rfl rfl rfl rfl) (V.move rfl rfl) rfl ?_
  refine RL.cmpF (Wanted.yes rfl rfl rfl rfl) (V.bin rfl rfl rfl B.neq) rfl (by decide) ?_
  refine RL.val (Wanted.free rfl) (V.pick_false rfl rfl rfl) rfl ?_
  refine RL.nil ?_
  refine SG.cond_false rfl ?_
  refine SG.skip ?_
  refine SG.seq ?_
  refine SG.region ?_
  refine RL.eff (Wanted.free rfl) (E.alloc rfl ze77) rfl ?_
  rintro _ _ ⟨b9, rfl, rfl⟩
  have hWr : Ent (Blk b9 77 [.slice none 0 0] :: Dsk b21 (fresh 16) :: L) (Wr b9 [] :: Dsk b21 (fresh 16) :: L) := Ent.trans (Ent.trans (Buf.nil (T := R8) (e := 5)) (Ent.swap _ _ _)) Wr.close
  refine RL.ent hWr ?_
  refine RL.nil ?_
  refine SG.seq ?_
  refine SG.region ?_
  refine RL.val (Wanted.free rfl) (V.move rfl rfl) rfl ?_
  refine RL.eff (Wanted.free rfl) (E.call rfl go40 rfl (ints_ok (a := a) (by repeat (first | exact List.Mem.head _ | assumption | apply List.Mem.tail)) (by decide) (by decide))) rfl ?_
  rintro _ _ ⟨a31, k31, c31, rfl, rfl⟩
  rw [hls]
  refine RL.publish (T := RI) (a := a31) Pick.here ?_
  refine RL.eff (Wanted.free rfl) (E.call rfl go39 rfl (wInts_ok (a := a31) (b := b9) (L1 := Sl RI a31 k31 c31 ls :: Dsk b21 (fresh 16) :: L) (by repeat (first | exact Ent.refl _ | (apply Ent.cons; (· repeat (first | exact Pick.here | (refine Pick.sl ?_; (· repeat (first | exact List.Mem.head _ | assumption | apply List.Mem.tail))) | apply Pick.there))) | (refine Ent.trans (Ent.drop _ _) ?_))) (by repeat (first | exact List.Mem.head _ | assumption | apply List.Mem.tail)) hints (by simp; omega))) rfl ?_
  rintro _ _ ⟨rfl, rfl⟩
  rw [List.nil_append, hB]
  refine RL.nil ?_
  refine SG.seq ?_
  refine SG.region ?_
  refine RL.val (Wanted.free rfl) (V.fieldAddr rfl rfl fo77_0) rfl ?_
  refine RL.eff (Wanted.free rfl) (E.call rfl go41 rfl (done_ok (b := b9) (l := bs) (by repeat (first | exact Pick.here | assumption | apply Pick.there)) (by omega))) rfl ?_
  rintro _ _ ⟨a10, k10, c10, rfl, rfl⟩
  refine RL.publish (T := R8) (a := a10) Pick.here ?_
  refine RL.sl (a := a10) (T := R8) (l := bs) (List.Mem.head _) fun h10 h10c h10c63 => ?_
  subst h10
  refine RL.val (Wanted.free rfl) (V.assign rfl rfl) rfl ?_
  refine RL.nil ?_
  refine SG.seq ?_
  refine SG.seq ?_
  refine SG.region ?_
  refine RL.val (Wanted.free rfl) (V.assign rfl rfl) rfl ?_
  refine RL.nil ?_
  refine SG.block ?_
  refine SG.weaken (SG.loop2 (fun m al M => ∃ (i : Nat) (D : Dk), i ≤ 8 ∧ m = 8 - i ∧ Wr1 bs i D ∧ al = [(0, .slice a n0 c), (1, .slice a1 os.length c1), (2, .slice a2 ts.length c2), (7, ptr b21 0), (10, .slice a10 bs.length c10), (11, vI i)] ∧ M = Dsk b21 D :: Sl R8 a10 bs.length c10 bs :: L) (m0 := _) ⟨0, _, by omega, rfl, Wr1.start bs, rfl, rfl⟩ ?_) ?_ ?_
  rotate_left
  · repeat (first | exact EnvLe.nil _ | refine EnvLe.cons rfl ?_)
  · repeat (first | exact Ent.refl _ | (apply Ent.cons; (· repeat (first | exact Pick.here | (refine Pick.sl ?_; (· repeat (first | exact List.Mem.head _ | assumption | apply List.Mem.tail))) | apply Pick.there))) | (refine Ent.trans (Ent.drop _ _) ?_))
  rintro _ _ _ ⟨i, D, hi, rfl, hW, rfl, rfl⟩ ih0
  have hDl := hW.len
  refine SG.seq ?_
  refine SG.seq ?_
  refine SG.region ?_
  refine RL.val (Wanted.free rfl) (V.move rfl rfl) rfl ?_
  refine RL.val (Wanted.free rfl) (V.bin rfl rfl rfl (B.mulI (by omega) (by omega))) rfl ?_
  refine RL.val (Wanted.free rfl) (V.move rfl rfl) rfl ?_
  refine RL.val (Wanted.free rfl) (V.len rfl rfl el32.under rfl) rfl ?_
  refine RL.cmp (Wanted.free rfl) (V.bin rfl rfl rfl B.lss) rfl (fun h23 => ?_) (fun h23 => ?_)
  · skip
    refine RL.nil ?_
    refine SG.cond_true rfl ?_
    refine SG.skip ?_
    refine SG.seq ?_
    refine SG.block ?_
    refine SG.seq ?_
    refine SG.region ?_
    refine RL.eff (Wanted.free rfl) (E.make (T := R8) (m := 64) (z0 := .int .u8 0) (x0 := 0) rfl el32 ze5 rfl rfl rfl (by decide) (by decide) (fun _ => ⟨rfl, trivial⟩)) rfl ?_
    rintro _ _ ⟨b42, rfl, rfl⟩
    refine RL.val (Wanted.free rfl) (V.assign rfl rfl) rfl ?_
    refine RL.nil ?_
    refine SG.seq ?_
    refine SG.region ?_
    refine RL.val (Wanted.free rfl) (V.move rfl rfl) rfl ?_
    refine RL.val (Wanted.free rfl) (V.move rfl rfl) rfl ?_
    refine RL.val (Wanted.free rfl) (V.move rfl rfl) rfl ?_
    refine RL.val (Wanted.free rfl) (V.bin rfl rfl rfl (B.mulI (by omega) (by omega))) rfl ?_
    refine RL.val (Wanted.free rfl) (V.move rfl rfl) rfl ?_
    refine RL.val (Wanted.free rfl) (V.bin rfl rfl rfl (B.mulI (by omega) (by omega))) rfl ?_
    refine RL.val (Wanted.free rfl) (V.bin rfl rfl rfl (B.addI (by omega) (by omega))) rfl ?_
    refine RL.val (Wanted.free rfl) (V.move rfl rfl) rfl ?_
    refine RL.val (Wanted.free rfl) (V.len rfl rfl el32.under rfl) rfl ?_
    refine RL.val (Wanted.free rfl) (V.min rfl rfl rfl rfl) rfl ?_
    obtain ⟨hi1, hhi1, hhi2⟩ : ∃ h : Nat, (if (bs.length : Int) < (i : Int) * 64 + 64 then (bs.length : Int) else (i : Int) * 64 + 64) = (h : Int) ∧ h = min (64 * i + 64) bs.length := ⟨min (64 * i + 64) bs.length, by split <;> omega, rfl⟩
    rw [hhi1]
    refine RL.eff (Wanted.free rfl) (E.slice (lo := 64 * i) (hi := hi1) rfl el32.slice rfl (by repeat (first | exact List.Mem.head _ | assumption | apply List.Mem.tail)) ⟨_, _, rfl, (by first | rfl | omega)⟩ ⟨_, _, rfl, (by first | rfl | omega)⟩ (by omega) (by omega)) rfl ?_
    intro _ _ hK36
    try rw [List.drop_zero] at hK36
    iterate 2 (try rw [Nat.sub_zero] at hK36)
    obtain ⟨a36, rfl, rfl⟩ := hK36
    refine RL.eff (Wanted.free rfl) (E.copyBuf (l := List.replicate 64 0) (l2 := (bs.drop (64 * i)).take (hi1 - 64 * i)) rfl rfl rfl el32 rfl rfl (by repeat (first | exact Pick.here | assumption | apply Pick.there)) (Src.sl (by decide) (by repeat (first | exact List.Mem.head _ | assumption | apply List.Mem.tail)))) rfl ?_
    rintro _ _ ⟨rfl, rfl⟩
    rw [chunk_copy (by omega) hhi2 (by simp; omega) (by omega)]
    refine RL.publish (T := R8) Pick.here ?_
    refine RL.nil ?_
    refine SG.seq ?_
    refine SG.region ?_
    refine RL.val (Wanted.free rfl) (V.move rfl rfl) rfl ?_
    refine RL.val (Wanted.free rfl) (V.move rfl rfl) rfl ?_
    refine RL.val (Wanted.free rfl) (V.move rfl rfl) rfl ?_
    refine RL.eff (Wanted.free rfl) (E.call rfl go31 rfl (dWrite_ok hW.ok (b := b21) (by repeat (first | exact Pick.here | assumption | apply Pick.there)) _ (s := chunk bs i) (by repeat (first | exact List.Mem.head _ | assumption | apply List.Mem.tail)) (by omega))) rfl ?_
    rintro _ _ ⟨rfl, rfl⟩
    rw [hW.calm.writeE (by omega) (by omega) (chunk_length (by omega)), hW.calm.write (by omega) (by omega) (chunk_length (by omega))]
    refine RL.cmpF (Wanted.free rfl) (V.bin rfl rfl rfl B.neq) rfl (by decide) ?_
    refine RL.nil ?_
    refine SG.cond_false rfl ?_
    refine SG.skip ?_
    refine SG.inBlock ?_
    refine SG.region ?_
    refine RL.val (Wanted.free rfl) (V.move rfl rfl) rfl ?_
    refine RL.val (Wanted.free rfl) (V.bin rfl rfl rfl (B.addI (by omega) (by omega))) rfl ?_
    refine RL.val (Wanted.free rfl) (V.assign rfl rfl) rfl ?_
    refine RL.nil ?_
    refine SG.weaken (ih0 _ _ _ ?_ ⟨i + 1, D.add i (chunk bs i), by omega, rfl, hW.step (by omega), rfl, rfl⟩) ?_ ?_
    · omega
    · repeat (first | exact EnvLe.nil _ | refine EnvLe.cons rfl ?_)
    · repeat (first | exact Ent.refl _ | (apply Ent.cons; (· repeat (first | exact Pick.here | (refine Pick.sl ?_; (· repeat (first | exact List.Mem.head _ | assumption | apply List.Mem.tail))) | apply Pick.there))) | (refine Ent.trans (Ent.drop _ _) ?_))
  · skip
    refine RL.nil ?_
    refine SG.cond_false rfl ?_
    refine SG.exit rfl ?_
    refine SG.seq ?_
    refine SG.seq ?_
    refine SG.region ?_
    refine RL.val (Wanted.free rfl) (V.move rfl rfl) rfl ?_
    refine RL.val (Wanted.free rfl) (V.len rfl rfl el32.under rfl) rfl ?_
    refine RL.cmpF (Wanted.free rfl) (V.bin rfl rfl rfl B.gtr) rfl (by omega) ?_
    refine RL.val (Wanted.free rfl) (V.move rfl rfl) rfl ?_
    refine RL.val (Wanted.yes rfl rfl rfl rfl) (V.move rfl rfl) rfl ?_
    refine RL.eff (Wanted.yes rfl rfl rfl rfl) (E.call rfl go30 rfl (dFlush_ok hW.ok (b := b21) (by repeat (first | exact Pick.here | assumption | apply Pick.there)) (by omega))) rfl ?_
    rintro _ _ ⟨rfl, rfl⟩
    rw [hW.calm.flushE]
    refine RL.cmpF (Wanted.yes rfl rfl rfl rfl) (V.bin rfl rfl rfl B.neq) rfl (by decide) ?_
    refine RL.val (Wanted.free rfl) (V.pick_false rfl rfl rfl) rfl ?_
    refine RL.nil ?_
    refine SG.cond_false rfl ?_
    refine SG.skip ?_
    refine SG.seq ?_
    refine SG.seq ?_
    refine SG.region ?_
    refine RL.val (Wanted.free rfl) (V.assign rfl rfl) rfl ?_
    refine RL.nil ?_
    refine SG.block ?_
    refine SG.weaken (SG.loop2 (fun m al M => ∃ (i : Nat) (D : Dk), i ≤ os.length ∧ i ≤ 20 ∧ m = 20 - i ∧ Wr2 bs i D ∧ al = [(0, .slice a n0 c), (1, .slice a1 os.length c1), (2, .slice a2 ts.length c2), (7, ptr b21 0), (10, .slice a10 bs.length c10), (13, vI i)] ∧ M = Dsk b21 D :: Sl R8 a10 bs.length c10 bs :: L) (m0 := _) ⟨0, _, by omega, by omega, rfl, hW.flush (by omega), rfl, rfl⟩ ?_) ?_ ?_
    rotate_left
    · repeat (first | exact EnvLe.nil _ | refine EnvLe.cons rfl ?_)
    · repeat (first | exact Ent.refl _ | (apply Ent.cons; (· repeat (first | exact Pick.here | (refine Pick.sl ?_; (· repeat (first | exact List.Mem.head _ | assumption | apply List.Mem.tail))) | apply Pick.there))) | (refine Ent.trans (Ent.drop _ _) ?_))
    rintro _ _ _ ⟨i, D, hi, hi20, rfl, hW, rfl, rfl⟩ ih1
    have hDl := hW.len
    refine SG.seq ?_
    refine SG.seq ?_
    refine SG.region ?_
    refine RL.val (Wanted.free rfl) (V.move rfl rfl) rfl ?_
    refine RL.val (Wanted.free rfl) (V.move rfl rfl) rfl ?_
    refine RL.val (Wanted.free rfl) (V.len rfl rfl el22.under rfl) rfl ?_
    refine RL.cmp (Wanted.free rfl) (V.bin rfl rfl rfl B.lss) rfl (fun h54 => ?_) (fun h54 => ?_)
    · skip
      refine RL.val (Wanted.free rfl) (V.move rfl rfl) rfl ?_
      refine RL.val (Wanted.yes rfl rfl rfl rfl) (V.move rfl rfl) rfl ?_
      refine RL.cmp (Wanted.yes rfl rfl rfl rfl) (V.bin rfl rfl rfl B.lss) rfl (fun h57 => ?_) (fun h57 => ?_)
      · skip
        refine RL.val (Wanted.free rfl) (V.pick_true rfl rfl rfl) rfl ?_
        refine RL.nil ?_
        refine SG.cond_true rfl ?_
        refine SG.skip ?_
        refine SG.seq ?_
        refine SG.block ?_
        refine SG.seq ?_
        refine SG.elemOp (a := a1) (by repeat (first | exact List.Mem.head _ | assumption | apply List.Mem.tail)) (show os[i]? = some os[i] from List.getElem?_eq_getElem (by omega)) fun ab mb cb al0 ml cl hok => ?_
        obtain ⟨ho1, ho2, ho3⟩ := hok
        unfold inInt at ho1 ho2 ho3
        obtain ⟨kk, hkk, hkk2⟩ := aroundV_nat (n := os[i].k) (most := 8) (by omega)
        refine SG.ent (Sl.nil (T := R8)) ?_
        refine SG.drawN 16 16 (Sl R8 ab mb cb os[i].b :: Sl RTorn al0 ml cl os[i].l :: At a1 (i * 5) [vI os[i].kind, vI os[i].k, vI os[i].n, .slice ab mb cb, .slice al0 ml cl] :: Sl R8 none 0 0 [] :: Sl R8 a10 bs.length c10 bs :: L) wide rfl rfl (by repeat (first | exact Ent.refl _ | (apply Ent.cons; (· repeat (first | exact Pick.here | (refine Pick.sl ?_; (· repeat (first | exact List.Mem.head _ | assumption | apply List.Mem.tail))) | apply Pick.there))) | (refine Ent.trans (Ent.drop _ _) ?_))) ?_
        refine RH.val 0 rfl (by kernel_rfl) (by kernel_rfl) (by kernel_rfl) (by kernel_rfl) (Wanted.free rfl) (V.move rfl rfl) rfl ?_
        refine RH.val 1 rfl (by kernel_rfl) (by kernel_rfl) (by kernel_rfl) (by kernel_rfl) (Wanted.free rfl) (V.move rfl rfl) rfl ?_
        refine RH.val 2 rfl (by kernel_rfl) (by kernel_rfl) (by kernel_rfl) (by kernel_rfl) (Wanted.free rfl) (V.move rfl rfl) rfl ?_
        refine RH.val 3 rfl (by kernel_rfl) (by kernel_rfl) (by kernel_rfl) (by kernel_rfl) (Wanted.free rfl) (V.indexSl (j := i) rfl el22.slice rfl rfl (by repeat (first | exact List.Mem.head _ | assumption | apply List.Mem.tail)) (by first | rfl | omega) (by omega)) rfl ?_
        refine RH.val 4 rfl (by kernel_rfl) (by kernel_rfl) (by kernel_rfl) (by kernel_rfl) (Wanted.free rfl) (V.fieldAt rfl rfl fo35_1 (by repeat (first | exact List.Mem.head _ | assumption | apply List.Mem.tail))) rfl ?_
        refine RH.val 5 rfl (by kernel_rfl) (by kernel_rfl) (by kernel_rfl) (by kernel_rfl) (Wanted.free rfl) (V.loadAtF rfl on3 rfl (by repeat (first | exact List.Mem.head _ | assumption | apply List.Mem.tail)) rfl) rfl ?_
        refine RH.val 8 rfl (by kernel_rfl) (by kernel_rfl) (by kernel_rfl) (by kernel_rfl) (Wanted.free rfl) (V.move rfl rfl) rfl ?_
        refine RH.val 9 rfl (by kernel_rfl) (by kernel_rfl) (by kernel_rfl) (by kernel_rfl) (Wanted.free rfl) (V.move rfl rfl) rfl ?_
        refine RH.val 10 rfl (by kernel_rfl) (by kernel_rfl) (by kernel_rfl) (by kernel_rfl) (Wanted.free rfl) (V.indexSl (j := i) rfl el22.slice rfl rfl (by repeat (first | exact List.Mem.head _ | assumption | apply List.Mem.tail)) (by first | rfl | omega) (by omega)) rfl ?_
        refine RH.val 11 rfl (by kernel_rfl) (by kernel_rfl) (by kernel_rfl) (by kernel_rfl) (Wanted.free rfl) (V.fieldAt rfl rfl fo35_2 (by repeat (first | exact List.Mem.head _ | assumption | apply List.Mem.tail))) rfl ?_
        refine RH.val 12 rfl (by kernel_rfl) (by kernel_rfl) (by kernel_rfl) (by kernel_rfl) (Wanted.free rfl) (V.loadAtF rfl on3 rfl (by repeat (first | exact List.Mem.head _ | assumption | apply List.Mem.tail)) rfl) rfl ?_
        refine RH.one (i := 6) (by kernel_rfl) ?_
        refine RHone.eff rfl (Wanted.free rfl) (E.call rfl go14 rfl (around_ok _ _ (by omega) (by omega) (by omega))) rfl ?_
        rintro _ _ ⟨rfl, rfl⟩
        refine ⟨.inr (by repeat (first | exact Ent.refl _ | (apply Ent.cons; (· repeat (first | exact Pick.here | (refine Pick.sl ?_; (· repeat (first | exact List.Mem.head _ | assumption | apply List.Mem.tail))) | apply Pick.there))) | (refine Ent.trans (Ent.drop _ _) ?_))), ?_⟩
        rw [hkk]
        refine RH.val 7 rfl (by kernel_rfl) (by kernel_rfl) (by kernel_rfl) (by kernel_rfl) (Wanted.free rfl) (V.bin rfl rfl rfl (B.addI (by omega) (by omega))) rfl ?_
        rw [show (8 : Int) + (kk : Int) = ((8 + kk : Nat) : Int) from by omega]
        refine RH.one (i := 13) (by kernel_rfl) ?_
        refine RHone.eff rfl (Wanted.free rfl) (E.call rfl go32 rfl (fill_ok (a := none) (l := []) _ (by repeat (first | exact List.Mem.head _ | assumption | apply List.Mem.tail)) (by omega) (by omega))) rfl ?_
        rintro _ _ ⟨a91, c91, s91, hs91, rfl, rfl⟩
        refine ⟨.inr (by repeat (first | exact Ent.refl _ | (apply Ent.cons; (· repeat (first | exact Pick.here | (refine Pick.sl ?_; (· repeat (first | exact List.Mem.head _ | assumption | apply List.Mem.tail))) | apply Pick.there))) | (refine Ent.trans (Ent.drop _ _) ?_))), ?_⟩
        refine RH.publish (T := R8) (a := a91) Pick.here ?_
        refine RH.one (i := 14) (by kernel_rfl) ?_
        refine RHone.eff rfl (Wanted.free rfl) (E.call rfl go31 rfl (dWrite_ok hW.ok (b := b21) (by repeat (first | exact Pick.here | assumption | apply Pick.there)) _ (s := s91) (by repeat (first | exact List.Mem.head _ | assumption | apply List.Mem.tail)) (by omega))) rfl ?_
        rintro _ _ ⟨rfl, rfl⟩
        refine ⟨.inr (by repeat (first | exact Ent.refl _ | (apply Ent.cons; (· repeat (first | exact Pick.here | (refine Pick.sl ?_; (· repeat (first | exact List.Mem.head _ | assumption | apply List.Mem.tail))) | apply Pick.there))) | (refine Ent.trans (Ent.drop _ _) ?_))), ?_⟩
        rw [hW.calm.writeE (by omega) (by omega) hs91, hW.calm.write (by omega) (by omega) hs91]
        refine RH.cmpF 15 rfl (by kernel_rfl) (by kernel_rfl) (by kernel_rfl) (by kernel_rfl) (Wanted.free rfl) (V.bin rfl rfl rfl B.neq) rfl (by decide) ?_
        refine RH.done (by kernel_rfl) ?_
        refine SG.cond_false rfl ?_
        refine SG.skip ?_
        refine SG.inBlock ?_
        refine SG.region ?_
        refine RL.val (Wanted.free rfl) (V.move rfl rfl) rfl ?_
        refine RL.val (Wanted.free rfl) (V.bin rfl rfl rfl (B.addI (by omega) (by omega))) rfl ?_
        refine RL.val (Wanted.free rfl) (V.assign rfl rfl) rfl ?_
        refine RL.nil ?_
        refine SG.weaken (ih1 _ _ _ ?_ ⟨i + 1, D.add ((8 + kk : Nat) : Int) s91, by omega, by omega, rfl, hW.step (by omega) (by omega) hs91, rfl, rfl⟩) ?_ ?_
        · omega
        · repeat (first | exact EnvLe.nil _ | refine EnvLe.cons rfl ?_)
        · repeat (first | exact Ent.refl _ | (apply Ent.cons; (· repeat (first | exact Pick.here | (refine Pick.sl ?_; (· repeat (first | exact List.Mem.head _ | assumption | apply List.Mem.tail))) | apply Pick.there))) | (refine Ent.trans (Ent.drop _ _) ?_))
      · skip
        refine RL.val (Wanted.free rfl) (V.pick_true rfl rfl rfl) rfl ?_
        refine RL.nil ?_
        refine SG.cond_false rfl ?_
        refine SG.exit rfl ?_
        refine SG.seq ?_
        refine SG.region ?_
        refine RL.val (Wanted.free rfl) (V.move rfl rfl) rfl ?_
        refine RL.eff (Wanted.free rfl) (E.call rfl go29 rfl (dFuse_ok hW.ok (b := b21) (by repeat (first | exact Pick.here | assumption | apply Pick.there)) _ (by decide) (by decide))) rfl ?_
        rintro _ _ ⟨rfl, rfl⟩
        have hOK := hW.ok.blow (n := 0) (by decide)
        refine RL.nil ?_
        refine SG.seq ?_
        refine SG.region ?_
        refine RL.val (Wanted.free rfl) (V.move rfl rfl) rfl ?_
        refine RL.val (Wanted.free rfl) (V.move rfl rfl) rfl ?_
        refine RL.val (Wanted.free rfl) (V.move rfl rfl) rfl ?_
        refine RL.val (Wanted.free rfl) (V.len rfl rfl el33.under rfl) rfl ?_
        refine RL.val (Wanted.free rfl) (V.min rfl rfl rfl rfl) rfl ?_
        refine RL.eff (Wanted.free rfl) (E.slice (lo := 0) (hi := min ts.length 40) rfl el33.slice rfl (by repeat (first | exact List.Mem.head _ | assumption | apply List.Mem.tail)) rfl ⟨_, _, rfl, (by first | rfl | omega)⟩ (by omega) (by omega)) rfl ?_
        intro _ _ hK83
        try rw [List.drop_zero] at hK83
        iterate 2 (try rw [Nat.sub_zero] at hK83)
        rw [show ts.take (min ts.length 40) = ts.take 40 from by rw [List.take_eq_take_iff]; omega] at hK83
        obtain ⟨a101, rfl, rfl⟩ := hK83
        refine RL.eff (Wanted.free rfl) (E.call rfl go27 rfl (dRestart_ok hOK (b := b21) (by repeat (first | exact Pick.here | assumption | apply Pick.there)) (ts := ts.take 40) (by repeat (first | exact List.Mem.head _ | assumption | apply List.Mem.tail)) (by omega) (by omega))) rfl ?_
        rintro _ _ ⟨rfl, rfl⟩
        refine RL.nil ?_
        refine SG.seq ?_
        refine SG.region ?_
        refine RL.val (Wanted.free rfl) (V.assign rfl rfl) rfl ?_
        refine RL.nil ?_
        refine SG.seq ?_
        refine SG.seq ?_
        refine SG.region ?_
        refine RL.val (Wanted.free rfl) (V.assign rfl rfl) rfl ?_
        refine RL.nil ?_
        refine SG.block ?_
        refine SG.ent (Buf.nil (T := R8) (e := 5)) ?_
        have hW3 := hW.restart (ts.take 40)
        generalize (D.blow 0).restart (ts.take 40) = D3 at *
        refine SG.weaken (SG.loop2 (fun m al M => ∃ (j : Nat) (a14 : Option Addr) (m14 c14 : Nat), j ≤ 8 ∧ m = 8 - j ∧ al = [(0, .slice a n0 c), (7, ptr b21 0), (10, .slice a10 bs.length c10), (14, .slice a14 m14 c14), (15, vI j)] ∧ M = Buf R8 5 a14 m14 c14 ((pad bs).take (64 * j)) :: Dsk b21 D3 :: Sl R8 a10 bs.length c10 bs :: L) (m0 := _) ⟨0, none, 0, 0, by omega, rfl, rfl, rfl⟩ ?_) ?_ ?_
        rotate_left
        · repeat (first | exact EnvLe.nil _ | refine EnvLe.cons rfl ?_)
        · repeat (first | exact Ent.refl _ | (apply Ent.cons; (· repeat (first | exact Pick.here | (refine Pick.sl ?_; (· repeat (first | exact List.Mem.head _ | assumption | apply List.Mem.tail))) | apply Pick.there))) | (refine Ent.trans (Ent.drop _ _) ?_))
        rintro _ _ _ ⟨j, a14, m14, c14, hj, rfl, rfl, rfl⟩ ih2
        refine SG.buf (T := R8) (a := a14) (by repeat (first | exact Pick.here | assumption | apply Pick.there)) fun hm14 _ _ => ?_
        rw [List.length_take, pad_length] at hm14
        refine SG.seq ?_
        refine SG.seq ?_
        refine SG.region ?_
        refine RL.val (Wanted.free rfl) (V.move rfl rfl) rfl ?_
        refine RL.cmp (Wanted.free rfl) (V.bin rfl rfl rfl B.lss) rfl (fun h88 => ?_) (fun h88 => ?_)
        · skip
          refine RL.nil ?_
          refine SG.cond_true rfl ?_
          refine SG.skip ?_
          refine SG.seq ?_
          refine SG.block ?_
          refine SG.seq ?_
          refine SG.region ?_
          refine RL.val (Wanted.free rfl) (V.move rfl rfl) rfl ?_
          refine RL.val (Wanted.free rfl) (V.move rfl rfl) rfl ?_
          refine RL.eff (Wanted.free rfl) (E.call rfl go21 rfl (dRead_ok hW3.ok (b := b21) (by repeat (first | exact Pick.here | assumption | apply Pick.there)) _ (by omega))) rfl ?_
          rintro _ _ ⟨a110, m110, c110, rfl, rfl⟩
          rw [hW3.read (by omega)]
          refine RL.val (Wanted.free rfl) (V.move rfl rfl) rfl ?_
          refine RL.val (Wanted.free rfl) (V.extract rfl rfl rfl) rfl ?_
          refine RL.val (Wanted.free rfl) (V.extract rfl rfl rfl) rfl ?_
          refine RL.val (Wanted.free rfl) (V.assign rfl rfl) rfl ?_
          refine RL.val (Wanted.free rfl) (V.assign rfl rfl) rfl ?_
          refine RL.nil ?_
          refine SG.seq ?_
          refine SG.seq ?_
          refine SG.region ?_
          refine RL.val (Wanted.free rfl) (V.move rfl rfl) rfl ?_
          refine RL.cmpF (Wanted.free rfl) (V.bin rfl rfl rfl B.neq) rfl (by simp) ?_
          refine RL.nil ?_
          refine SG.cond_false rfl ?_
          refine SG.skip ?_
          refine SG.buf (T := R8) (a := a110) (by repeat (first | exact Pick.here | assumption | apply Pick.there)) fun hm110 _ _ => ?_
          rw [chunk_length (by omega)] at hm110
          subst hm110
          refine SG.region ?_
          refine RL.val (Wanted.free rfl) (V.move rfl rfl) rfl ?_
          refine RL.val (Wanted.free rfl) (V.move rfl rfl) rfl ?_
          refine RL.eff (Wanted.free rfl) (E.append (T := R8) rfl rfl rfl el32 el32.noInt rfl rfl (by repeat (first | exact Pick.here | assumption | apply Pick.there)) (Src.buf (a := a110) (m := 64) (c := c110) (e := 5) (by decide) (by repeat (first | exact Pick.here | assumption | apply Pick.there))) (by rw [chunk_length (by omega)]; omega) (by rw [chunk_length (by omega)]; omega)) rfl ?_
          intro _ _ hK100
          try rw [List.nil_append] at hK100
          try rw [Nat.zero_add] at hK100
          rw [chunk_length (by omega)] at hK100
          obtain ⟨a117, c117, rfl, rfl⟩ := hK100
          refine RL.val (Wanted.free rfl) (V.assign rfl rfl) rfl ?_
          refine RL.nil ?_
          refine SG.inBlock ?_
          refine SG.region ?_
          refine RL.val (Wanted.free rfl) (V.move rfl rfl) rfl ?_
          refine RL.val (Wanted.free rfl) (V.bin rfl rfl rfl (B.addI (by omega) (by omega))) rfl ?_
          refine RL.val (Wanted.free rfl) (V.assign rfl rfl) rfl ?_
          refine RL.nil ?_
          refine SG.weaken (ih2 _ _ _ ?_ ⟨j + 1, a117, m14 + 64, c117, by omega, rfl, rfl, rfl⟩) ?_ ?_
          · omega
          · repeat (first | exact EnvLe.nil _ | refine EnvLe.cons rfl ?_)
          · rw [← pad_step]
            repeat (first | exact Ent.refl _ | (apply Ent.cons; (· repeat (first | exact Pick.here | (refine Pick.sl ?_; (· repeat (first | exact List.Mem.head _ | assumption | apply List.Mem.tail))) | apply Pick.there))) | (refine Ent.trans (Ent.drop _ _) ?_))
        · skip
          refine RL.nil ?_
          refine SG.cond_false rfl ?_
          refine SG.exit rfl ?_
          refine SG.seq ?_
          refine SG.seq ?_
          obtain rfl : j = 8 := by omega
          refine SG.publish (T := R8) (a := a14) (by repeat (first | exact Pick.here | assumption | apply Pick.there)) ?_
          refine SG.region ?_
          refine RL.val (Wanted.free rfl) (V.move rfl rfl) rfl ?_
          refine RL.val (Wanted.free rfl) (V.len rfl rfl el32.under rfl) rfl ?_
          refine RL.val (Wanted.free rfl) (V.move rfl rfl) rfl ?_
          refine RL.val (Wanted.free rfl) (V.len rfl rfl el32.under rfl) rfl ?_
          refine RL.cmpF (Wanted.free rfl) (V.bin rfl rfl rfl B.lss) rfl (by omega) ?_
          refine RL.nil ?_
          refine SG.cond_false rfl ?_
          refine SG.skip ?_
          refine SG.seq ?_
          refine SG.region ?_
          refine RL.val (Wanted.free rfl) (V.move rfl rfl) rfl ?_
          refine RL.val (Wanted.free rfl) (V.move rfl rfl) rfl ?_
          refine RL.val (Wanted.free rfl) (V.len rfl rfl el32.under rfl) rfl ?_
          refine RL.eff (Wanted.free rfl) (E.slice (lo := 0) (hi := bs.length) rfl el32.slice rfl (by repeat (first | exact List.Mem.head _ | assumption | apply List.Mem.tail)) rfl ⟨_, _, rfl, (by first | rfl | omega)⟩ (by omega) (by omega)) rfl ?_
          intro _ _ hK112
          try rw [List.drop_zero] at hK112
          iterate 2 (try rw [Nat.sub_zero] at hK112)
          rw [pad_all hB5] at hK112
          obtain ⟨a112, rfl, rfl⟩ := hK112
          refine RL.eff (Wanted.free rfl) (E.call rfl go42 rfl (newReader_sl (l := bs) (by repeat (first | exact List.Mem.head _ | assumption | apply List.Mem.tail)) (by omega))) rfl ?_
          rintro _ _ ⟨b127, rfl, rfl⟩
          refine RL.val (Wanted.free rfl) (V.assign rfl rfl) rfl ?_
          refine RL.nil ?_
          refine SG.seq ?_
          refine SG.seq ?_
          refine SG.region ?_
          refine RL.val (Wanted.free rfl) (V.move rfl rfl) rfl ?_
          refine RL.cmpF (Wanted.free rfl) (V.eqlPtrNil rfl up81 rfl rfl) rfl (by simp) ?_
          refine RL.nil ?_
          refine SG.cond_false rfl ?_
          refine SG.skip ?_
          refine SG.seq ?_
          refine SG.region ?_
          refine RL.val (Wanted.free rfl) (V.move rfl rfl) rfl ?_
          refine RL.eff (Wanted.free rfl) (E.call rfl go43 rfl (rInts_ok 30 (b := b127) (by repeat (first | exact Pick.here | assumption | apply Pick.there)) (by decide) (by decide) (by omega))) rfl ?_
          rintro _ _ ⟨l131, e131, xs131, a131, k131, c131, r131, rfl, rfl⟩
          rw [hdec] at r131
          cases r131
          refine RL.val (Wanted.free rfl) (V.assign rfl rfl) rfl ?_
          refine RL.nil ?_
          refine SG.seq ?_
          refine SG.region ?_
          refine RL.val (Wanted.free rfl) (V.move rfl rfl) rfl ?_
          refine RL.eff (Wanted.free rfl) (E.call rfl go44 rfl (rEnd_ok (b := b127) (by repeat (first | exact Pick.here | assumption | apply Pick.there)))) rfl ?_
          rintro _ _ ⟨rfl, rfl⟩
          refine RL.cmpT (Wanted.free rfl) (V.bin rfl rfl rfl B.eql) rfl (by simp) ?_
          refine RL.val (Wanted.free rfl) (V.move rfl rfl) rfl ?_
          refine RL.val (Wanted.yes rfl rfl rfl rfl) (V.move rfl rfl) rfl ?_
          refine RL.val (Wanted.yes rfl rfl rfl rfl) (V.move rfl rfl) rfl ?_
          refine RL.eff (Wanted.yes rfl rfl rfl rfl) (E.call rfl go40 rfl (ints_ok (a := a) (by repeat (first | exact List.Mem.head _ | assumption | apply List.Mem.tail)) (by decide) (by decide))) rfl ?_
          rintro _ _ ⟨a138, k138, c138, rfl, rfl⟩
          rw [hls]
          refine RL.publish (T := RI) (a := a138) Pick.here ?_
          refine RL.publish (T := RI) (a := a131) (by repeat (first | exact Pick.here | assumption | apply Pick.there)) ?_
          refine RL.eff (Wanted.yes rfl rfl rfl rfl) (E.call rfl go45 rfl ((sameInts_ok (a := a131) (a' := a138) (l := ls) (l' := ls) (by repeat (first | exact List.Mem.head _ | assumption | apply List.Mem.tail)) (by repeat (first | exact List.Mem.head _ | assumption | apply List.Mem.tail))).mono (Ent.refl _) (K' := fun v M => v = vB true ∧ M = _) fun _ _ h => ⟨by rw [h.1]; simp, h.2⟩)) rfl ?_
          rintro _ _ ⟨rfl, rfl⟩
          refine RL.val (Wanted.free rfl) (V.pick_true rfl rfl rfl) rfl ?_
          refine RL.val (Wanted.free rfl) (V.move rfl rfl) rfl ?_
          refine RL.eff (Wanted.yes rfl rfl rfl rfl) (E.call rfl go17 rfl (lives_ok)) rfl ?_
          rintro _ _ ⟨rfl, rfl⟩
          refine RL.val (Wanted.free rfl) (V.pick_true rfl rfl rfl) rfl ?_
          refine RL.val (Wanted.free rfl) (V.assign rfl rfl) rfl ?_
          refine RL.nil ?_
          refine SG.retE (Ret.r1 Try.func11 rfl (.tmp rfl)) ?_ ⟨rfl, rfl⟩
          repeat (first | exact Ent.refl _ | (apply Ent.cons; (· repeat (first | exact Pick.here | (refine Pick.sl ?_; (· repeat (first | exact List.Mem.head _ | assumption | apply List.Mem.tail))) | apply Pick.there))) | (refine Ent.trans (Ent.drop _ _) ?_))
    · skip
      refine RL.val (Wanted.free rfl) (V.move rfl rfl) rfl ?_
      refine RL.skip (Wanted.no rfl rfl rfl rfl rfl) rfl ?_
      refine RL.skip (Wanted.no rfl rfl rfl rfl rfl) rfl ?_
      refine RL.val (Wanted.free rfl) (V.pick_false rfl rfl rfl) rfl ?_
      refine RL.nil ?_
      refine SG.cond_false rfl ?_
      refine SG.exit rfl ?_
      refine SG.seq ?_
      refine SG.region ?_
      refine RL.val (Wanted.free rfl) (V.move rfl rfl) rfl ?_
      refine RL.eff (Wanted.free rfl) (E.call rfl go29 rfl (dFuse_ok hW.ok (b := b21) (by repeat (first | exact Pick.here | assumption | apply Pick.there)) _ (by decide) (by decide))) rfl ?_
      rintro _ _ ⟨rfl, rfl⟩
      have hOK := hW.ok.blow (n := 0) (by decide)
      refine RL.nil ?_
      refine SG.seq ?_
      refine SG.region ?_
      refine RL.val (Wanted.free rfl) (V.move rfl rfl) rfl ?_
      refine RL.val (Wanted.free rfl) (V.move rfl rfl) rfl ?_
      refine RL.val (Wanted.free rfl) (V.move rfl rfl) rfl ?_
      refine RL.val (Wanted.free rfl) (V.len rfl rfl el33.under rfl) rfl ?_
      refine RL.val (Wanted.free rfl) (V.min rfl rfl rfl rfl) rfl ?_
      refine RL.eff (Wanted.free rfl) (E.slice (lo := 0) (hi := min ts.length 40) rfl el33.slice rfl (by repeat (first | exact List.Mem.head _ | assumption | apply List.Mem.tail)) rfl ⟨_, _, rfl, (by first | rfl | omega)⟩ (by omega) (by omega)) rfl ?_
      intro _ _ hK137
      try rw [List.drop_zero] at hK137
      iterate 2 (try rw [Nat.sub_zero] at hK137)
      rw [show ts.take (min ts.length 40) = ts.take 40 from by rw [List.take_eq_take_iff]; omega] at hK137
      obtain ⟨a101, rfl, rfl⟩ := hK137
      refine RL.eff (Wanted.free rfl) (E.call rfl go27 rfl (dRestart_ok hOK (b := b21) (by repeat (first | exact Pick.here | assumption | apply Pick.there)) (ts := ts.take 40) (by repeat (first | exact List.Mem.head _ | assumption | apply List.Mem.tail)) (by omega) (by omega))) rfl ?_
      rintro _ _ ⟨rfl, rfl⟩
      refine RL.nil ?_
      refine SG.seq ?_
      refine SG.region ?_
      refine RL.val (Wanted.free rfl) (V.assign rfl rfl) rfl ?_
      refine RL.nil ?_
      refine SG.seq ?_
      refine SG.seq ?_
      refine SG.region ?_
      refine RL.val (Wanted.free rfl) (V.assign rfl rfl) rfl ?_
      refine RL.nil ?_
      refine SG.block ?_
      refine SG.ent (Buf.nil (T := R8) (e := 5)) ?_
      have hW3 := hW.restart (ts.take 40)
      generalize (D.blow 0).restart (ts.take 40) = D3 at *
      refine SG.weaken (SG.loop2 (fun m al M => ∃ (j : Nat) (a14 : Option Addr) (m14 c14 : Nat), j ≤ 8 ∧ m = 8 - j ∧ al = [(0, .slice a n0 c), (7, ptr b21 0), (10, .slice a10 bs.length c10), (14, .slice a14 m14 c14), (15, vI j)] ∧ M = Buf R8 5 a14 m14 c14 ((pad bs).take (64 * j)) :: Dsk b21 D3 :: Sl R8 a10 bs.length c10 bs :: L) (m0 := _) ⟨0, none, 0, 0, by omega, rfl, rfl, rfl⟩ ?_) ?_ ?_
      rotate_left
      · repeat (first | exact EnvLe.nil _ | refine EnvLe.cons rfl ?_)
      · repeat (first | exact Ent.refl _ | (apply Ent.cons; (· repeat (first | exact Pick.here | (refine Pick.sl ?_; (· repeat (first | exact List.Mem.head _ | assumption | apply List.Mem.tail))) | apply Pick.there))) | (refine Ent.trans (Ent.drop _ _) ?_))
      rintro _ _ _ ⟨j, a14, m14, c14, hj, rfl, rfl, rfl⟩ ih2
      refine SG.buf (T := R8) (a := a14) (by repeat (first | exact Pick.here | assumption | apply Pick.there)) fun hm14 _ _ => ?_
      rw [List.length_take, pad_length] at hm14
      refine SG.seq ?_
      refine SG.seq ?_
      refine SG.region ?_
      refine RL.val (Wanted.free rfl) (V.move rfl rfl) rfl ?_
      refine RL.cmp (Wanted.free rfl) (V.bin rfl rfl rfl B.lss) rfl (fun h142 => ?_) (fun h142 => ?_)
      · skip
        refine RL.nil ?_
        refine SG.cond_true rfl ?_
        refine SG.skip ?_
        refine SG.seq ?_
        refine SG.block ?_
        refine SG.seq ?_
        refine SG.region ?_
        refine RL.val (Wanted.free rfl) (V.move rfl rfl) rfl ?_
        refine RL.val (Wanted.free rfl) (V.move rfl rfl) rfl ?_
        refine RL.eff (Wanted.free rfl) (E.call rfl go21 rfl (dRead_ok hW3.ok (b := b21) (by repeat (first | exact Pick.here | assumption | apply Pick.there)) _ (by omega))) rfl ?_
        rintro _ _ ⟨a110, m110, c110, rfl, rfl⟩
        rw [hW3.read (by omega)]
        refine RL.val (Wanted.free rfl) (V.move rfl rfl) rfl ?_
        refine RL.val (Wanted.free rfl) (V.extract rfl rfl rfl) rfl ?_
        refine RL.val (Wanted.free rfl) (V.extract rfl rfl rfl) rfl ?_
        refine RL.val (Wanted.free rfl) (V.assign rfl rfl) rfl ?_
        refine RL.val (Wanted.free rfl) (V.assign rfl rfl) rfl ?_
        refine RL.nil ?_
        refine SG.seq ?_
        refine SG.seq ?_
        refine SG.region ?_
        refine RL.val (Wanted.free rfl) (V.move rfl rfl) rfl ?_
        refine RL.cmpF (Wanted.free rfl) (V.bin rfl rfl rfl B.neq) rfl (by simp) ?_
        refine RL.nil ?_
        refine SG.cond_false rfl ?_
        refine SG.skip ?_
        refine SG.buf (T := R8) (a := a110) (by repeat (first | exact Pick.here | assumption | apply Pick.there)) fun hm110 _ _ => ?_
        rw [chunk_length (by omega)] at hm110
        subst hm110
        refine SG.region ?_
        refine RL.val (Wanted.free rfl) (V.move rfl rfl) rfl ?_
        refine RL.val (Wanted.free rfl) (V.move rfl rfl) rfl ?_
        refine RL.eff (Wanted.free rfl) (E.append (T := R8) rfl rfl rfl el32 el32.noInt rfl rfl (by repeat (first | exact Pick.here | assumption | apply Pick.there)) (Src.buf (a := a110) (m := 64) (c := c110) (e := 5) (by decide) (by repeat (first | exact Pick.here | assumption | apply Pick.there))) (by rw [chunk_length (by omega)]; omega) (by rw [chunk_length (by omega)]; omega)) rfl ?_
        intro _ _ hK154
        try rw [List.nil_append] at hK154
        try rw [Nat.zero_add] at hK154
        rw [chunk_length (by omega)] at hK154
        obtain ⟨a117, c117, rfl, rfl⟩ := hK154
        refine RL.val (Wanted.free rfl) (V.assign rfl rfl) rfl ?_
        refine RL.nil ?_
        refine SG.inBlock ?_
        refine SG.region ?_
        refine RL.val (Wanted.free rfl) (V.move rfl rfl) rfl ?_
        refine RL.val (Wanted.free rfl) (V.bin rfl rfl rfl (B.addI (by omega) (by omega))) rfl ?_
        refine RL.val (Wanted.free rfl) (V.assign rfl rfl) rfl ?_
        refine RL.nil ?_
        refine SG.weaken (ih2 _ _ _ ?_ ⟨j + 1, a117, m14 + 64, c117, by omega, rfl, rfl, rfl⟩) ?_ ?_
        · omega
        · repeat (first | exact EnvLe.nil _ | refine EnvLe.cons rfl ?_)
        · rw [← pad_step]
          repeat (first | exact Ent.refl _ | (apply Ent.cons; (· repeat (first | exact Pick.here | (refine Pick.sl ?_; (· repeat (first | exact List.Mem.head _ | assumption | apply List.Mem.tail))) | apply Pick.there))) | (refine Ent.trans (Ent.drop _ _) ?_))
      · skip
        refine RL.nil ?_
        refine SG.cond_false rfl ?_
        refine SG.exit rfl ?_
        refine SG.seq ?_
        refine SG.seq ?_
        obtain rfl : j = 8 := by omega
        refine SG.publish (T := R8) (a := a14) (by repeat (first | exact Pick.here | assumption | apply Pick.there)) ?_
        refine SG.region ?_
        refine RL.val (Wanted.free rfl) (V.move rfl rfl) rfl ?_
        refine RL.val (Wanted.free rfl) (V.len rfl rfl el32.under rfl) rfl ?_
        refine RL.val (Wanted.free rfl) (V.move rfl rfl) rfl ?_
        refine RL.val (Wanted.free rfl) (V.len rfl rfl el32.under rfl) rfl ?_
        refine RL.cmpF (Wanted.free rfl) (V.bin rfl rfl rfl B.lss) rfl (by omega) ?_
        refine RL.nil ?_
        refine SG.cond_false rfl ?_
        refine SG.skip ?_
        refine SG.seq ?_
        refine SG.region ?_
        refine RL.val (Wanted.free rfl) (V.move rfl rfl) rfl ?_
        refine RL.val (Wanted.free rfl) (V.move rfl rfl) rfl ?_
        refine RL.val (Wanted.free rfl) (V.len rfl rfl el32.under rfl) rfl ?_
        refine RL.eff (Wanted.free rfl) (E.slice (lo := 0) (hi := bs.length) rfl el32.slice rfl (by repeat (first | exact List.Mem.head _ | assumption | apply List.Mem.tail)) rfl ⟨_, _, rfl, (by first | rfl | omega)⟩ (by omega) (by omega)) rfl ?_
        intro _ _ hK166
        try rw [List.drop_zero] at hK166
        iterate 2 (try rw [Nat.sub_zero] at hK166)
        rw [pad_all hB5] at hK166
        obtain ⟨a166, rfl, rfl⟩ := hK166
        refine RL.eff (Wanted.free rfl) (E.call rfl go42 rfl (newReader_sl (l := bs) (by repeat (first | exact List.Mem.head _ | assumption | apply List.Mem.tail)) (by omega))) rfl ?_
        rintro _ _ ⟨b127, rfl, rfl⟩
        refine RL.val (Wanted.free rfl) (V.assign rfl rfl) rfl ?_
        refine RL.nil ?_
        refine SG.seq ?_
        refine SG.seq ?_
        refine SG.region ?_
        refine RL.val (Wanted.free rfl) (V.move rfl rfl) rfl ?_
        refine RL.cmpF (Wanted.free rfl) (V.eqlPtrNil rfl up81 rfl rfl) rfl (by simp) ?_
        refine RL.nil ?_
        refine SG.cond_false rfl ?_
        refine SG.skip ?_
        refine SG.seq ?_
        refine SG.region ?_
        refine RL.val (Wanted.free rfl) (V.move rfl rfl) rfl ?_
        refine RL.eff (Wanted.free rfl) (E.call rfl go43 rfl (rInts_ok 30 (b := b127) (by repeat (first | exact Pick.here | assumption | apply Pick.there)) (by decide) (by decide) (by omega))) rfl ?_
        rintro _ _ ⟨l131, e131, xs131, a131, k131, c131, r131, rfl, rfl⟩
        rw [hdec] at r131
        cases r131
        refine RL.val (Wanted.free rfl) (V.assign rfl rfl) rfl ?_
        refine RL.nil ?_
        refine SG.seq ?_
        refine SG.region ?_
        refine RL.val (Wanted.free rfl) (V.move rfl rfl) rfl ?_
        refine RL.eff (Wanted.free rfl) (E.call rfl go44 rfl (rEnd_ok (b := b127) (by repeat (first | exact Pick.here | assumption | apply Pick.there)))) rfl ?_
        rintro _ _ ⟨rfl, rfl⟩
        refine RL.cmpT (Wanted.free rfl) (V.bin rfl rfl rfl B.eql) rfl (by simp) ?_
        refine RL.val (Wanted.free rfl) (V.move rfl rfl) rfl ?_
        refine RL.val (Wanted.yes rfl rfl rfl rfl) (V.move rfl rfl) rfl ?_
        refine RL.val (Wanted.yes rfl rfl rfl rfl) (V.move rfl rfl) rfl ?_
        refine RL.eff (Wanted.yes rfl rfl rfl rfl) (E.call rfl go40 rfl (ints_ok (a := a) (by repeat (first | exact List.Mem.head _ | assumption | apply List.Mem.tail)) (by decide) (by decide))) rfl ?_
        rintro _ _ ⟨a138, k138, c138, rfl, rfl⟩
        rw [hls]
        refine RL.publish (T := RI) (a := a138) Pick.here ?_
        refine RL.publish (T := RI) (a := a131) (by repeat (first | exact Pick.here | assumption | apply Pick.there)) ?_
        refine RL.eff (Wanted.yes rfl rfl rfl rfl) (E.call rfl go45 rfl ((sameInts_ok (a := a131) (a' := a138) (l := ls) (l' := ls) (by repeat (first | exact List.Mem.head _ | assumption | apply List.Mem.tail)) (by repeat (first | exact List.Mem.head _ | assumption | apply List.Mem.tail))).mono (Ent.refl _) (K' := fun v M => v = vB true ∧ M = _) fun _ _ h => ⟨by rw [h.1]; simp, h.2⟩)) rfl ?_
        rintro _ _ ⟨rfl, rfl⟩
        refine RL.val (Wanted.free rfl) (V.pick_true rfl rfl rfl) rfl ?_
        refine RL.val (Wanted.free rfl) (V.move rfl rfl) rfl ?_
        refine RL.eff (Wanted.yes rfl rfl rfl rfl) (E.call rfl go17 rfl (lives_ok)) rfl ?_
        rintro _ _ ⟨rfl, rfl⟩
        refine RL.val (Wanted.free rfl) (V.pick_true rfl rfl rfl) rfl ?_
        refine RL.val (Wanted.free rfl) (V.assign rfl rfl) rfl ?_
        refine RL.nil ?_
        refine SG.retE (Ret.r1 Try.func11 rfl (.tmp rfl)) ?_ ⟨rfl, rfl⟩
        repeat (first | exact Ent.refl _ | (apply Ent.cons; (· repeat (first | exact Pick.here | (refine Pick.sl ?_; (· repeat (first | exact List.Mem.head _ | assumption | apply List.Mem.tail))) | apply Pick.there))) | (refine Ent.trans (Ent.drop _ _) ?_))

end Go.Proofs.Yteghgfgkkpfcaaa
