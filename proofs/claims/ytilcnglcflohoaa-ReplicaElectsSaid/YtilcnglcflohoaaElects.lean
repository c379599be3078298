/- The walk of ReplicaElects. -/
import Derived.Test.YtilcnglcflohoaaLawp
import Derived.Test.YtilcnglcflohoaaRaft5
namespace Go.Proofs.Ytilcnglcflohoaa
open Go.Wk Go.Rp

theorem actC_v (c : Clu) (a : Act) (i j : Nat) : VStep (c.p j) ((actC c a i).p j) := by
  unfold actC
  split
  · exact cCamp_v _ _ _
  split
  · exact cProp_v _ _ _ _
  split
  · exact cBeat_v _ _ _
  split
  · exact cRest_v _ _ _
  split
  · exact .refl _
  · exact cArr_v _ _ _
theorem runV_steps (n : Int) (l : List Int) : ∀ (j : Nat) c c', (runV n l)[j]? = some c → (runV n l)[j + 1]? = some c' → ∀ i, VStep (c.p i) (c'.p i) := by
  intro j c c' h h' i
  unfold runV hist at h h'
  have hj := (List.getElem?_eq_some_iff.1 h').1
  rw [List.length_map, List.length_range] at hj
  rw [List.getElem?_map, List.getElem?_range (by omega)] at h h'
  cases h; cases h'
  exact actC_v _ _ _ _
def Seen' (N : Nat) (G : Gh) (s : List Int) : Prop := ∀ (T : Nat) x, s[T]? = some x → x = -1 ∨ ∃ (k : Nat) (q : Peer), x = k ∧ POK N G k q ∧ q.role = 2 ∧ q.term = T
theorem seen_same {N : Nat} {G : Gh} {s : List Int} (h : Seen' N G s) {T j : Nat} {x : Int} (hx : s[T]? = some x) (h0 : 0 ≤ x) {p : Peer} (hp : POK N G j p) (hr : p.role = 2) (ht : p.term = T) : x = j := by
  rcases h T x hx with e | ⟨k, q, e, a, b, c⟩
  · omega
  · have := one_leader a hp b hr (by omega)
    omega
theorem seen_set {N : Nat} {G : Gh} {s : List Int} (h : Seen' N G s) {T j : Nat} {p : Peer} (hp : POK N G j p) (hr : p.role = 2) (ht : p.term = T) : Seen' N G (s.set T j) := fun u x hx => by
  rcases set_get hx with ⟨rfl, rfl⟩ | ⟨_, e⟩
  · exact .inr ⟨j, p, rfl, hp, hr, ht⟩
  · exact h u x e
def fillN (i : Nat) : List Int := List.replicate i (-1) ++ List.replicate (200 - i) 0
theorem fillN_len {i : Nat} (h : i ≤ 200) : (fillN i).length = 200 := by simp [fillN]; omega
theorem fillN_set {i : Nat} (h : i < 200) : (fillN i).set i (-1) = fillN (i + 1) := by
  unfold fillN
  rw [List.set_append_right _ _ (by simp), List.length_replicate, Nat.sub_self, show 200 - i = (200 - (i + 1)) + 1 from by omega, List.replicate_succ, List.set_cons_zero, List.replicate_succ', List.append_assoc]
  rfl
theorem fillN_seen {N : Nat} {G : Gh} : Seen' N G (fillN 200) := fun T x hx => .inl (by
  have hm := List.mem_of_getElem? hx
  unfold fillN at hm
  rcases List.mem_append.1 hm with h | h
  · exact List.eq_of_mem_replicate h
  · rw [Nat.sub_self] at h; exact absurd h List.not_mem_nil)

set_option maxRecDepth 100000 in
set_option maxHeartbeats 1000000 in
theorem elects_law {κ : World} {L : List Assn} {n : Int} (hn : inInt n) {a : Option Addr} {k cc : Nat} {l : List Int} (hm : Sl RI a k cc l ∈ L) :
    Ctr Try.prog 6 #[vI n, .slice a k cc] κ L (fun v M => v = vB true ∧ M = L) := by
  refine Ctr.enter (vs := [vI n, .slice a k cc]) (m := 140) Try.func6 rfl rfl rfl ?_
  refine SG.seq ?_
  refine SG.region ?_
  refine RL.val (Wanted.free rfl) (V.assign rfl rfl) rfl ?_
  refine RL.nil ?_
  refine SG.seq ?_
  refine SG.region ?_
  refine RL.val (Wanted.free rfl) (V.move rfl rfl) rfl ?_
  refine RL.val (Wanted.free rfl) (V.move rfl rfl) rfl ?_
  refine RL.eff (Wanted.free rfl) (E.call rfl go15 rfl (run_ok hn (by repeat (first | exact List.Mem.head _ | assumption | apply List.Mem.tail)))) rfl ?_
  rintro _ _ ⟨a5, c5, rfl, rfl⟩
  obtain ⟨N, G, h1, h5, hG, hHl, hH⟩ := runV_facts n l
  have hS := runV_steps n l
  generalize runV n l = H at hHl hH hS ⊢
  refine RL.val (Wanted.free rfl) (V.move rfl rfl) rfl ?_
  refine RL.val (Wanted.free rfl) (V.extract rfl rfl rfl) rfl ?_
  refine RL.val (Wanted.free rfl) (V.extract rfl rfl rfl) rfl ?_
  refine RL.val (Wanted.free rfl) (V.assign rfl rfl) rfl ?_
  refine RL.val (Wanted.free rfl) (V.assign rfl rfl) rfl ?_
  refine RL.nil ?_
  refine SG.seq ?_
  refine SG.seq ?_
  refine SG.region ?_
  refine RL.val (Wanted.free rfl) (V.move rfl rfl) rfl ?_
  refine RL.val (Wanted.free rfl) (V.not rfl rfl) rfl ?_
  refine RL.nil ?_
  refine SG.cond_false rfl ?_
  refine SG.skip ?_
  refine SG.seq ?_
  refine SG.region ?_
  refine RL.eff (Wanted.free rfl) (E.make (T := RI) (m := 200) (z0 := .int .i64 0) (x0 := 0) rfl el22 ze3 rfl rfl rfl (by decide) (by decide) (fun _ => ⟨rfl, by unfold inInt; omega⟩)) rfl ?_
  rintro _ _ ⟨b21, rfl, rfl⟩
  refine RL.val (Wanted.free rfl) (V.assign rfl rfl) rfl ?_
  refine RL.nil ?_
  refine SG.seq ?_
  refine SG.seq ?_
  refine SG.region ?_
  refine RL.val (Wanted.free rfl) (V.assign rfl rfl) rfl ?_
  refine RL.nil ?_
  refine SG.block ?_
  refine SG.weaken (SG.loop2 (fun m al M => ∃ i : Nat, i ≤ 200 ∧ m = 200 - i ∧ al = [(0, vI n), (1, .slice a k cc), (4, vB false), (5, .slice a5 H.length c5), (6, vB true), (7, .slice (some ⟨b21, 0, none⟩) 200 200), (8, vI i)] ∧ M = Buf RI 3 (some ⟨b21, 0, none⟩) 200 200 (fillN i) :: Sl RClu a5 H.length c5 H :: L) (m0 := _) ⟨0, by omega, rfl, rfl, rfl⟩ ?_) ?_ ?_
  rotate_left
  · repeat (first | exact EnvLe.nil _ | refine EnvLe.cons rfl ?_)
  · repeat (first | exact Ent.refl _ | (apply Ent.cons; (· repeat (first | exact Pick.here | (refine Pick.sl ?_; (· repeat (first | exact List.Mem.head _ | assumption | apply List.Mem.tail))) | apply Pick.there))) | (refine Ent.trans (Ent.drop _ _) ?_))
  rintro _ _ _ ⟨i, hi, rfl, rfl, rfl⟩ ih0
  refine SG.seq ?_
  refine SG.seq ?_
  refine SG.region ?_
  refine RL.val (Wanted.free rfl) (V.move rfl rfl) rfl ?_
  refine RL.val (Wanted.free rfl) (V.move rfl rfl) rfl ?_
  refine RL.val (Wanted.free rfl) (V.len rfl rfl el22.under rfl) rfl ?_
  refine RL.cmp (Wanted.free rfl) (V.bin rfl rfl rfl B.lss) rfl (fun h17 => ?_) (fun h17 => ?_)
  · skip
    refine RL.nil ?_
    refine SG.cond_true rfl ?_
    refine SG.skip ?_
    refine SG.seq ?_
    refine SG.block ?_
    have hfl := fillN_len hi
    refine SG.region ?_
    refine RL.val (Wanted.free rfl) (V.move rfl rfl) rfl ?_
    refine RL.val (Wanted.free rfl) (V.move rfl rfl) rfl ?_
    refine RL.val (Wanted.free rfl) (V.indexBuf (j := i) rfl el22.slice rfl rfl (by repeat (first | exact Pick.here | assumption | apply Pick.there)) (by first | rfl | omega) (by omega)) rfl ?_
    refine RL.eff (Wanted.free rfl) (E.storeBuf [vI (-1)] rfl sz3 rfl rfl rfl (by repeat (first | exact Pick.here | assumption | apply Pick.there)) (by omega) (fun _ _ _ => ⟨rfl, by unfold inInt; omega⟩)) rfl ?_
    rintro _ _ rfl
    refine RL.nil ?_
    refine SG.inBlock ?_
    refine SG.region ?_
    refine RL.val (Wanted.free rfl) (V.move rfl rfl) rfl ?_
    refine RL.val (Wanted.free rfl) (V.bin rfl rfl rfl (B.addI (by omega) (by omega))) rfl ?_
    refine RL.val (Wanted.free rfl) (V.assign rfl rfl) rfl ?_
    refine RL.nil ?_
    have hfs := fillN_set (show i < 200 by omega)
    refine SG.weaken (ih0 _ _ _ ?_ ⟨i + 1, by omega, rfl, rfl, rfl⟩) ?_ ?_
    · omega
    · repeat (first | exact EnvLe.nil _ | refine EnvLe.cons rfl ?_)
    · rw [hfs]
      repeat (first | exact Ent.refl _ | (apply Ent.cons; (· repeat (first | exact Pick.here | (refine Pick.sl ?_; (· repeat (first | exact List.Mem.head _ | assumption | apply List.Mem.tail))) | apply Pick.there))) | (refine Ent.trans (Ent.drop _ _) ?_))
  · skip
    refine RL.nil ?_
    refine SG.cond_false rfl ?_
    refine SG.exit rfl ?_
    refine SG.seq ?_
    refine SG.seq ?_
    obtain rfl : i = 200 := by omega
    refine SG.region ?_
    refine RL.val (Wanted.free rfl) (V.assign rfl rfl) rfl ?_
    refine RL.nil ?_
    refine SG.block ?_
    refine SG.weaken (SG.loop2 (fun m al M => ∃ (i : Nat) (seen : List Int), seen.length = 200 ∧ Seen' N G seen ∧ i ≤ H.length ∧ m = H.length - i ∧ al = [(0, vI n), (1, .slice a k cc), (4, vB false), (5, .slice a5 H.length c5), (6, vB true), (7, .slice (some ⟨b21, 0, none⟩) 200 200), (9, vI i)] ∧ M = Buf RI 3 (some ⟨b21, 0, none⟩) 200 200 (seen) :: Sl RClu a5 H.length c5 H :: L) (m0 := _) ⟨0, fillN 200, fillN_len (by omega), fillN_seen, by omega, rfl, rfl, rfl⟩ ?_) ?_ ?_
    rotate_left
    · repeat (first | exact EnvLe.nil _ | refine EnvLe.cons rfl ?_)
    · repeat (first | exact Ent.refl _ | (apply Ent.cons; (· repeat (first | exact Pick.here | (refine Pick.sl ?_; (· repeat (first | exact List.Mem.head _ | assumption | apply List.Mem.tail))) | apply Pick.there))) | (refine Ent.trans (Ent.drop _ _) ?_))
    rintro _ _ _ ⟨i, seen, hsl, hsn, hi, rfl, rfl, rfl⟩ ih1
    refine SG.seq ?_
    refine SG.seq ?_
    refine SG.region ?_
    refine RL.val (Wanted.free rfl) (V.move rfl rfl) rfl ?_
    refine RL.val (Wanted.free rfl) (V.move rfl rfl) rfl ?_
    refine RL.val (Wanted.free rfl) (V.len rfl rfl el31.under rfl) rfl ?_
    refine RL.cmp (Wanted.free rfl) (V.bin rfl rfl rfl B.lss) rfl (fun h29 => ?_) (fun h29 => ?_)
    · skip
      refine RL.nil ?_
      refine SG.cond_true rfl ?_
      refine SG.skip ?_
      refine SG.seq ?_
      refine SG.block ?_
      refine SG.seq ?_
      refine SG.region ?_
      refine RL.val (Wanted.free rfl) (V.assign rfl rfl) rfl ?_
      refine RL.nil ?_
      refine SG.block ?_
      refine SG.weaken (SG.loop2 (fun m0 al M => ∃ (j : Nat) (seen : List Int), seen.length = 200 ∧ Seen' N G seen ∧ j ≤ N ∧ m0 = N - j ∧ al = [(0, vI n), (1, .slice a k cc), (4, vB false), (5, .slice a5 H.length c5), (6, vB true), (7, .slice (some ⟨b21, 0, none⟩) 200 200), (9, vI i), (10, vI j)] ∧ M = Buf RI 3 (some ⟨b21, 0, none⟩) 200 200 (seen) :: Sl RClu a5 H.length c5 H :: L) (m0 := _) ⟨0, seen, hsl, hsn, by omega, rfl, rfl, rfl⟩ ?_) ?_ ?_
      rotate_left
      · repeat (first | exact EnvLe.nil _ | refine EnvLe.cons rfl ?_)
      · repeat (first | exact Ent.refl _ | (apply Ent.cons; (· repeat (first | exact Pick.here | (refine Pick.sl ?_; (· repeat (first | exact List.Mem.head _ | assumption | apply List.Mem.tail))) | apply Pick.there))) | (refine Ent.trans (Ent.drop _ _) ?_))
      rintro _ _ _ ⟨j, seen, hsl, hsn, hj, rfl, rfl, rfl⟩ ih2
      refine SG.seq ?_
      refine SG.seq ?_
      obtain ⟨c, hc⟩ : ∃ c, H[i]? = some c := ⟨_, List.getElem?_eq_getElem (by omega)⟩
      have hHc := hH _ _ hc
      refine SG.elemClu (l := H) (a := a5) (j := i) (by repeat (first | exact List.Mem.head _ | assumption | apply List.Mem.tail)) hc fun na nn nc sa sn sc => ?_
      refine SG.sl (T := RPeer) (a := na) (l := c.nodes) (by repeat (first | exact List.Mem.head _ | assumption | apply List.Mem.tail)) fun hnn _ _ => ?_
      rw [hHc.len] at hnn
      subst hnn
      refine SG.region ?_
      refine RL.val (Wanted.free rfl) (V.move rfl rfl) rfl ?_
      refine RL.val (Wanted.free rfl) (V.move rfl rfl) rfl ?_
      refine RL.val (Wanted.free rfl) (V.move rfl rfl) rfl ?_
      refine RL.val (Wanted.free rfl) (V.indexSl (T := RClu) (l := H) (a := a5) (j := i) rfl el31.slice rfl rfl (by repeat (first | exact List.Mem.head _ | assumption | apply List.Mem.tail)) rfl (by omega)) rfl ?_
      refine RL.val (Wanted.free rfl) (V.fieldAt rfl rfl fo37_0 (by repeat (first | exact List.Mem.head _ | assumption | apply List.Mem.tail))) rfl ?_
      refine RL.val (Wanted.free rfl) (V.loadAtF rfl on34 rfl (by repeat (first | exact List.Mem.head _ | assumption | apply List.Mem.tail)) rfl) rfl ?_
      refine RL.val (Wanted.free rfl) (V.len rfl rfl el34.under rfl) rfl ?_
      refine RL.cmp (Wanted.free rfl) (V.bin rfl rfl rfl B.lss) rfl (fun h38 => ?_) (fun h38 => ?_)
      · skip
        refine RL.nil ?_
        refine SG.cond_true rfl ?_
        refine SG.skip ?_
        refine SG.seq ?_
        refine SG.block ?_
        refine SG.seq ?_
        obtain ⟨hpj, hpk, hpo⟩ := hHc.get (i := j) (by omega)
        have hT60 := hHc.term _ (List.mem_of_getElem? hpj)
        have hT0 := hpo.t0
        obtain ⟨T, hT⟩ := Int.eq_ofNat_of_zero_le hT0
        refine SG.region ?_
        refine RL.val (Wanted.free rfl) (V.move rfl rfl) rfl ?_
        refine RL.val (Wanted.free rfl) (V.move rfl rfl) rfl ?_
        refine RL.val (Wanted.free rfl) (V.indexSl (T := RClu) (l := H) (a := a5) (j := i) rfl el31.slice rfl rfl (by repeat (first | exact List.Mem.head _ | assumption | apply List.Mem.tail)) rfl (by omega)) rfl ?_
        refine RL.val (Wanted.free rfl) (V.fieldAt rfl rfl fo37_0 (by repeat (first | exact List.Mem.head _ | assumption | apply List.Mem.tail))) rfl ?_
        refine RL.val (Wanted.free rfl) (V.loadAtF rfl on34 rfl (by repeat (first | exact List.Mem.head _ | assumption | apply List.Mem.tail)) rfl) rfl ?_
        refine RL.val (Wanted.free rfl) (V.move rfl rfl) rfl ?_
        refine RL.val (Wanted.free rfl) (V.indexSl (T := RPeer) (l := c.nodes) (a := na) (j := j) rfl el34.slice rfl rfl (by repeat (first | exact List.Mem.head _ | assumption | apply List.Mem.tail)) rfl (by rw [hHc.len]; omega)) rfl ?_
        refine RL.eff (Wanted.free rfl) (E.loadElem (T := RPeer) (l := c.nodes) (a := na) (j := j) rfl ag26 rfl (by repeat (first | exact List.Mem.head _ | assumption | apply List.Mem.tail)) hpj) rfl ?_
        rintro _ _ ⟨u54, rfl, rfl⟩
        refine RL.eff (Wanted.free rfl) (E.alloc rfl ze26) rfl ?_
        rintro _ _ ⟨b11, rfl, rfl⟩
        refine RL.openPeer (us := u54) (Pick.rd (T := RPeer) (by repeat (first | exact List.Mem.head _ | assumption | apply List.Mem.tail))) fun pa pn pc va vn vc xa xn xc hus => ?_
        subst hus
        refine RL.eff (Wanted.free rfl) (E.storeWhole rfl rfl rfl (by rfl) sz26 (by repeat (first | exact Pick.here | assumption | apply Pick.there)) pv_one (by rfl)) rfl ?_
        rintro _ _ rfl
        refine RL.nil ?_
        refine SG.seq ?_
        refine SG.seq ?_
        refine SG.region ?_
        refine RL.val (Wanted.free rfl) (V.fieldAddr rfl rfl fo26_2) rfl ?_
        refine RL.val (Wanted.free rfl) (V.load rfl on3 rfl (by repeat (first | exact Pick.here | assumption | apply Pick.there)) rfl) rfl ?_
        refine RL.cmpF (Wanted.free rfl) (V.bin rfl rfl rfl B.lss) rfl (by omega) ?_
        refine RL.val (Wanted.free rfl) (V.move rfl rfl) rfl ?_
        refine RL.val (Wanted.yes rfl rfl rfl rfl) (V.fieldAddr rfl rfl fo26_2) rfl ?_
        refine RL.val (Wanted.yes rfl rfl rfl rfl) (V.load rfl on3 rfl (by repeat (first | exact Pick.here | assumption | apply Pick.there)) rfl) rfl ?_
        refine RL.val (Wanted.yes rfl rfl rfl rfl) (V.move rfl rfl) rfl ?_
        refine RL.val (Wanted.yes rfl rfl rfl rfl) (V.len rfl rfl el22.under rfl) rfl ?_
        refine RL.cmpF (Wanted.yes rfl rfl rfl rfl) (V.bin rfl rfl rfl B.geq) rfl (by omega) ?_
        refine RL.val (Wanted.free rfl) (V.pick_false rfl rfl rfl) rfl ?_
        refine RL.nil ?_
        refine SG.cond_false rfl ?_
        refine SG.skip ?_
        refine SG.seq ?_
        refine SG.seq ?_
        refine SG.region ?_
        refine RL.val (Wanted.free rfl) (V.fieldAddr rfl rfl fo26_4) rfl ?_
        refine RL.val (Wanted.free rfl) (V.load rfl on3 rfl (by repeat (first | exact Pick.here | assumption | apply Pick.there)) rfl) rfl ?_
        refine RL.cmp (Wanted.free rfl) (V.bin rfl rfl rfl B.eql) rfl (fun h58 => ?_) (fun h58 => ?_)
        · skip
          refine RL.val (Wanted.free rfl) (V.move rfl rfl) rfl ?_
          refine RL.val (Wanted.yes rfl rfl rfl rfl) (V.move rfl rfl) rfl ?_
          refine RL.val (Wanted.yes rfl rfl rfl rfl) (V.fieldAddr rfl rfl fo26_2) rfl ?_
          refine RL.val (Wanted.yes rfl rfl rfl rfl) (V.load rfl on3 rfl (by repeat (first | exact Pick.here | assumption | apply Pick.there)) rfl) rfl ?_
          refine RL.val (Wanted.yes rfl rfl rfl rfl) (V.indexBuf (j := T) rfl el22.slice rfl rfl (by repeat (first | exact Pick.here | assumption | apply Pick.there)) (by first | rfl | omega) (by omega)) rfl ?_
          refine RL.val (Wanted.yes rfl rfl rfl rfl) (V.loadBufSc rfl on3 rfl (by repeat (first | exact Pick.here | assumption | apply Pick.there)) (List.getElem?_eq_getElem (by omega))) rfl ?_
          refine RL.cmp (Wanted.yes rfl rfl rfl rfl) (V.bin rfl rfl rfl B.geq) rfl (fun h65 => ?_) (fun h65 => ?_)
          · skip
            have hsj := seen_same hsn (List.getElem?_eq_getElem (show T < seen.length by omega)) h65 hpk (by assumption) hT
            refine RL.val (Wanted.free rfl) (V.pick_true rfl rfl rfl) rfl ?_
            refine RL.val (Wanted.free rfl) (V.move rfl rfl) rfl ?_
            refine RL.val (Wanted.yes rfl rfl rfl rfl) (V.move rfl rfl) rfl ?_
            refine RL.val (Wanted.yes rfl rfl rfl rfl) (V.fieldAddr rfl rfl fo26_2) rfl ?_
            refine RL.val (Wanted.yes rfl rfl rfl rfl) (V.load rfl on3 rfl (by repeat (first | exact Pick.here | assumption | apply Pick.there)) rfl) rfl ?_
            refine RL.val (Wanted.yes rfl rfl rfl rfl) (V.indexBuf (j := T) rfl el22.slice rfl rfl (by repeat (first | exact Pick.here | assumption | apply Pick.there)) (by first | rfl | omega) (by omega)) rfl ?_
            refine RL.val (Wanted.yes rfl rfl rfl rfl) (V.loadBufSc rfl on3 rfl (by repeat (first | exact Pick.here | assumption | apply Pick.there)) (List.getElem?_eq_getElem (by omega))) rfl ?_
            refine RL.val (Wanted.yes rfl rfl rfl rfl) (V.move rfl rfl) rfl ?_
            refine RL.cmpF (Wanted.yes rfl rfl rfl rfl) (V.bin rfl rfl rfl B.neq) rfl (by omega) ?_
            refine RL.val (Wanted.free rfl) (V.pick_true rfl rfl rfl) rfl ?_
            refine RL.nil ?_
            refine SG.cond_false rfl ?_
            refine SG.skip ?_
            refine SG.seq ?_
            refine SG.seq ?_
            refine SG.region ?_
            refine RL.val (Wanted.free rfl) (V.fieldAddr rfl rfl fo26_4) rfl ?_
            refine RL.val (Wanted.free rfl) (V.load rfl on3 rfl (by repeat (first | exact Pick.here | assumption | apply Pick.there)) rfl) rfl ?_
            refine RL.cmpT (Wanted.free rfl) (V.bin rfl rfl rfl B.eql) rfl (by omega) ?_
            refine RL.nil ?_
            refine SG.cond_true rfl ?_
            have hset := seen_set (j := j) hsn hpk (by assumption) hT
            have hstl : (seen.set T (j : Int)).length = 200 := by rw [List.length_set]; exact hsl
            refine SG.region ?_
            refine RL.val (Wanted.free rfl) (V.move rfl rfl) rfl ?_
            refine RL.val (Wanted.free rfl) (V.fieldAddr rfl rfl fo26_2) rfl ?_
            refine RL.val (Wanted.free rfl) (V.load rfl on3 rfl (by repeat (first | exact Pick.here | assumption | apply Pick.there)) rfl) rfl ?_
            refine RL.val (Wanted.free rfl) (V.move rfl rfl) rfl ?_
            refine RL.val (Wanted.free rfl) (V.indexBuf (j := T) rfl el22.slice rfl rfl (by repeat (first | exact Pick.here | assumption | apply Pick.there)) (by first | rfl | omega) (by omega)) rfl ?_
            refine RL.eff (Wanted.free rfl) (E.storeBuf [vI (j : Int)] rfl sz3 rfl rfl rfl (by repeat (first | exact Pick.here | assumption | apply Pick.there)) (by omega) (fun _ _ _ => ⟨rfl, by unfold inInt; omega⟩)) rfl ?_
            rintro _ _ rfl
            refine RL.nil ?_
            refine SG.seq ?_
            refine SG.seq ?_
            obtain ⟨cq, hcq⟩ : ∃ c, H[i - 1]? = some c := ⟨_, List.getElem?_eq_getElem (by omega)⟩
            have hHq := hH _ _ hcq
            refine SG.elemClu (l := H) (a := a5) (j := i - 1) (by repeat (first | exact List.Mem.head _ | assumption | apply List.Mem.tail)) hcq fun ra rn rc ga gn gc => ?_
            refine SG.sl (T := RPeer) (a := ra) (l := cq.nodes) (by repeat (first | exact List.Mem.head _ | assumption | apply List.Mem.tail)) fun hrn _ _ => ?_
            rw [hHq.len] at hrn
            subst hrn
            refine SG.region ?_
            refine RL.val (Wanted.free rfl) (V.move rfl rfl) rfl ?_
            refine RL.cmp (Wanted.free rfl) (V.bin rfl rfl rfl B.eql) rfl (fun h82 => ?_) (fun h82 => ?_)
            · skip
              refine RL.val (Wanted.free rfl) (V.move rfl rfl) rfl ?_
              refine RL.skip (Wanted.no rfl rfl rfl rfl rfl) rfl ?_
              refine RL.skip (Wanted.no rfl rfl rfl rfl rfl) rfl ?_
              refine RL.skip (Wanted.no rfl rfl rfl rfl rfl) rfl ?_
              refine RL.skip (Wanted.no rfl rfl rfl rfl rfl) rfl ?_
              refine RL.skip (Wanted.no rfl rfl rfl rfl rfl) rfl ?_
              refine RL.skip (Wanted.no rfl rfl rfl rfl rfl) rfl ?_
              refine RL.skip (Wanted.no rfl rfl rfl rfl rfl) rfl ?_
              refine RL.skip (Wanted.no rfl rfl rfl rfl rfl) rfl ?_
              refine RL.skip (Wanted.no rfl rfl rfl rfl rfl) rfl ?_
              refine RL.val (Wanted.free rfl) (V.pick_true rfl rfl rfl) rfl ?_
              refine RL.nil ?_
              refine SG.cond_true rfl ?_
              refine SG.exit rfl ?_
              refine SG.region ?_
              refine RL.val (Wanted.free rfl) (V.move rfl rfl) rfl ?_
              refine RL.val (Wanted.free rfl) (V.bin rfl rfl rfl (B.addI (by omega) (by omega))) rfl ?_
              refine RL.val (Wanted.free rfl) (V.assign rfl rfl) rfl ?_
              refine RL.nil ?_
              first | (refine SG.weaken (ih2 _ _ _ ?_ ⟨j + 1, seen.set T (j : Int), hstl, hset, by omega, rfl, rfl, rfl⟩) ?_ ?_) | (refine SG.weaken (ih2 _ _ _ ?_ ⟨j + 1, seen, hsl, hsn, by omega, rfl, rfl, rfl⟩) ?_ ?_)
              · omega
              · repeat (first | exact EnvLe.nil _ | refine EnvLe.cons rfl ?_)
              · repeat (first | exact Ent.refl _ | (apply Ent.cons; (· repeat (first | exact Pick.here | (refine Pick.sl ?_; (· repeat (first | exact List.Mem.head _ | assumption | apply List.Mem.tail))) | apply Pick.there))) | (refine Ent.trans (Ent.drop _ _) ?_))
            · skip
              refine RL.val (Wanted.free rfl) (V.move rfl rfl) rfl ?_
              refine RL.val (Wanted.yes rfl rfl rfl rfl) (V.move rfl rfl) rfl ?_
              refine RL.val (Wanted.yes rfl rfl rfl rfl) (V.move rfl rfl) rfl ?_
              refine RL.val (Wanted.yes rfl rfl rfl rfl) (V.move rfl rfl) rfl ?_
              refine RL.val (Wanted.yes rfl rfl rfl rfl) (V.bin rfl rfl rfl (B.subI (by omega) (by omega))) rfl ?_
              refine RL.val (Wanted.yes rfl rfl rfl rfl) (V.indexSl (T := RClu) (l := H) (a := a5) (j := i - 1) rfl el31.slice rfl rfl (by repeat (first | exact List.Mem.head _ | assumption | apply List.Mem.tail)) (by omega) (by omega)) rfl ?_
              refine RL.val (Wanted.yes rfl rfl rfl rfl) (V.fieldAt rfl rfl fo37_0 (by repeat (first | exact List.Mem.head _ | assumption | apply List.Mem.tail))) rfl ?_
              refine RL.val (Wanted.yes rfl rfl rfl rfl) (V.loadAtF rfl on34 rfl (by repeat (first | exact List.Mem.head _ | assumption | apply List.Mem.tail)) rfl) rfl ?_
              refine RL.val (Wanted.yes rfl rfl rfl rfl) (V.len rfl rfl el34.under rfl) rfl ?_
              refine RL.cmpF (Wanted.yes rfl rfl rfl rfl) (V.bin rfl rfl rfl B.geq) rfl (by omega) ?_
              refine RL.val (Wanted.free rfl) (V.pick_false rfl rfl rfl) rfl ?_
              refine RL.nil ?_
              refine SG.cond_false rfl ?_
              refine SG.skip ?_
              refine SG.seq ?_
              obtain ⟨hqj, hqk, hqo⟩ := hHq.get (i := j) (by omega)
              obtain ⟨hv1, hv2⟩ := hS (i - 1) cq c hcq (by rw [show i - 1 + 1 = i from by omega]; exact hc) j
              refine SG.region ?_
              refine RL.val (Wanted.free rfl) (V.move rfl rfl) rfl ?_
              refine RL.val (Wanted.free rfl) (V.move rfl rfl) rfl ?_
              refine RL.val (Wanted.free rfl) (V.bin rfl rfl rfl (B.subI (by omega) (by omega))) rfl ?_
              refine RL.val (Wanted.free rfl) (V.indexSl (T := RClu) (l := H) (a := a5) (j := i - 1) rfl el31.slice rfl rfl (by repeat (first | exact List.Mem.head _ | assumption | apply List.Mem.tail)) (by omega) (by omega)) rfl ?_
              refine RL.val (Wanted.free rfl) (V.fieldAt rfl rfl fo37_0 (by repeat (first | exact List.Mem.head _ | assumption | apply List.Mem.tail))) rfl ?_
              refine RL.val (Wanted.free rfl) (V.loadAtF rfl on34 rfl (by repeat (first | exact List.Mem.head _ | assumption | apply List.Mem.tail)) rfl) rfl ?_
              refine RL.val (Wanted.free rfl) (V.move rfl rfl) rfl ?_
              refine RL.val (Wanted.free rfl) (V.indexSl (T := RPeer) (l := cq.nodes) (a := ra) (j := j) rfl el34.slice rfl rfl (by repeat (first | exact List.Mem.head _ | assumption | apply List.Mem.tail)) rfl (by rw [hHq.len]; omega)) rfl ?_
              refine RL.eff (Wanted.free rfl) (E.loadElem (T := RPeer) (l := cq.nodes) (a := ra) (j := j) rfl ag26 rfl (by repeat (first | exact List.Mem.head _ | assumption | apply List.Mem.tail)) hqj) rfl ?_
              rintro _ _ ⟨u114, rfl, rfl⟩
              refine RL.eff (Wanted.free rfl) (E.alloc rfl ze26) rfl ?_
              rintro _ _ ⟨b12, rfl, rfl⟩
              refine RL.openPeer (us := u114) (Pick.rd (T := RPeer) (by repeat (first | exact List.Mem.head _ | assumption | apply List.Mem.tail))) fun qa qn qc wa wn wc ya yn yc hus => ?_
              subst hus
              refine RL.eff (Wanted.free rfl) (E.storeWhole rfl rfl rfl (by rfl) sz26 (by repeat (first | exact Pick.here | assumption | apply Pick.there)) pv_one (by rfl)) rfl ?_
              rintro _ _ rfl
              refine RL.nil ?_
              refine SG.seq ?_
              refine SG.region ?_
              refine RL.val (Wanted.free rfl) (V.fieldAddr rfl rfl fo26_2) rfl ?_
              refine RL.val (Wanted.free rfl) (V.load rfl on3 rfl (by repeat (first | exact Pick.here | assumption | apply Pick.there)) rfl) rfl ?_
              refine RL.val (Wanted.free rfl) (V.fieldAddr rfl rfl fo26_2) rfl ?_
              refine RL.val (Wanted.free rfl) (V.load rfl on3 rfl (by repeat (first | exact Pick.here | assumption | apply Pick.there)) rfl) rfl ?_
              refine RL.cmpF (Wanted.free rfl) (V.bin rfl rfl rfl B.lss) rfl (by omega) ?_
              refine RL.val (Wanted.free rfl) (V.move rfl rfl) rfl ?_
              refine RL.val (Wanted.yes rfl rfl rfl rfl) (V.fieldAddr rfl rfl fo26_2) rfl ?_
              refine RL.val (Wanted.yes rfl rfl rfl rfl) (V.load rfl on3 rfl (by repeat (first | exact Pick.here | assumption | apply Pick.there)) rfl) rfl ?_
              refine RL.val (Wanted.yes rfl rfl rfl rfl) (V.fieldAddr rfl rfl fo26_2) rfl ?_
              refine RL.val (Wanted.yes rfl rfl rfl rfl) (V.load rfl on3 rfl (by repeat (first | exact Pick.here | assumption | apply Pick.there)) rfl) rfl ?_
              refine RL.cmp (Wanted.yes rfl rfl rfl rfl) (V.bin rfl rfl rfl B.eql) rfl (fun h116 => ?_) (fun h116 => ?_)
              · skip
                refine RL.val (Wanted.yes rfl rfl rfl rfl) (V.move rfl rfl) rfl ?_
                refine RL.val (Wanted.yes rfl rfl rfl rfl) (V.fieldAddr rfl rfl fo26_3) rfl ?_
                refine RL.val (Wanted.yes rfl rfl rfl rfl) (V.load rfl on3 rfl (by repeat (first | exact Pick.here | assumption | apply Pick.there)) rfl) rfl ?_
                refine RL.cmp (Wanted.yes rfl rfl rfl rfl) (V.bin rfl rfl rfl B.geq) rfl (fun h120 => ?_) (fun h120 => ?_)
                · skip
                  refine RL.val (Wanted.yes rfl rfl rfl rfl) (V.pick_true rfl rfl rfl) rfl ?_
                  refine RL.val (Wanted.yes rfl rfl rfl rfl) (V.move rfl rfl) rfl ?_
                  refine RL.val (Wanted.yes rfl rfl rfl rfl) (V.fieldAddr rfl rfl fo26_3) rfl ?_
                  refine RL.val (Wanted.yes rfl rfl rfl rfl) (V.load rfl on3 rfl (by repeat (first | exact Pick.here | assumption | apply Pick.there)) rfl) rfl ?_
                  refine RL.val (Wanted.yes rfl rfl rfl rfl) (V.fieldAddr rfl rfl fo26_3) rfl ?_
                  refine RL.val (Wanted.yes rfl rfl rfl rfl) (V.load rfl on3 rfl (by repeat (first | exact Pick.here | assumption | apply Pick.there)) rfl) rfl ?_
                  refine RL.cmpF (Wanted.yes rfl rfl rfl rfl) (V.bin rfl rfl rfl B.neq) rfl (by have := hv2 (by omega) (by omega); omega) ?_
                  refine RL.val (Wanted.yes rfl rfl rfl rfl) (V.pick_true rfl rfl rfl) rfl ?_
                  refine RL.val (Wanted.free rfl) (V.pick_false rfl rfl rfl) rfl ?_
                  refine RL.nil ?_
                  refine SG.cond_false rfl ?_
                  refine SG.skip ?_
                  refine SG.inBlock ?_
                  refine SG.region ?_
                  refine RL.val (Wanted.free rfl) (V.move rfl rfl) rfl ?_
                  refine RL.val (Wanted.free rfl) (V.bin rfl rfl rfl (B.addI (by omega) (by omega))) rfl ?_
                  refine RL.val (Wanted.free rfl) (V.assign rfl rfl) rfl ?_
                  refine RL.nil ?_
                  first | (refine SG.weaken (ih2 _ _ _ ?_ ⟨j + 1, seen.set T (j : Int), hstl, hset, by omega, rfl, rfl, rfl⟩) ?_ ?_) | (refine SG.weaken (ih2 _ _ _ ?_ ⟨j + 1, seen, hsl, hsn, by omega, rfl, rfl, rfl⟩) ?_ ?_)
                  · omega
                  · repeat (first | exact EnvLe.nil _ | refine EnvLe.cons rfl ?_)
                  · repeat (first | exact Ent.refl _ | (apply Ent.cons; (· repeat (first | exact Pick.here | (refine Pick.sl ?_; (· repeat (first | exact List.Mem.head _ | assumption | apply List.Mem.tail))) | apply Pick.there))) | (refine Ent.trans (Ent.drop _ _) ?_))
                · skip
                  refine RL.val (Wanted.yes rfl rfl rfl rfl) (V.pick_true rfl rfl rfl) rfl ?_
                  refine RL.val (Wanted.yes rfl rfl rfl rfl) (V.move rfl rfl) rfl ?_
                  refine RL.skip (Wanted.no rfl rfl rfl rfl rfl) rfl ?_
                  refine RL.skip (Wanted.no rfl rfl rfl rfl rfl) rfl ?_
                  refine RL.skip (Wanted.no rfl rfl rfl rfl rfl) rfl ?_
                  refine RL.skip (Wanted.no rfl rfl rfl rfl rfl) rfl ?_
                  refine RL.skip (Wanted.no rfl rfl rfl rfl rfl) rfl ?_
                  refine RL.val (Wanted.yes rfl rfl rfl rfl) (V.pick_false rfl rfl rfl) rfl ?_
                  refine RL.val (Wanted.free rfl) (V.pick_false rfl rfl rfl) rfl ?_
                  refine RL.nil ?_
                  refine SG.cond_false rfl ?_
                  refine SG.skip ?_
                  refine SG.inBlock ?_
                  refine SG.region ?_
                  refine RL.val (Wanted.free rfl) (V.move rfl rfl) rfl ?_
                  refine RL.val (Wanted.free rfl) (V.bin rfl rfl rfl (B.addI (by omega) (by omega))) rfl ?_
                  refine RL.val (Wanted.free rfl) (V.assign rfl rfl) rfl ?_
                  refine RL.nil ?_
                  first | (refine SG.weaken (ih2 _ _ _ ?_ ⟨j + 1, seen.set T (j : Int), hstl, hset, by omega, rfl, rfl, rfl⟩) ?_ ?_) | (refine SG.weaken (ih2 _ _ _ ?_ ⟨j + 1, seen, hsl, hsn, by omega, rfl, rfl, rfl⟩) ?_ ?_)
                  · omega
                  · repeat (first | exact EnvLe.nil _ | refine EnvLe.cons rfl ?_)
                  · repeat (first | exact Ent.refl _ | (apply Ent.cons; (· repeat (first | exact Pick.here | (refine Pick.sl ?_; (· repeat (first | exact List.Mem.head _ | assumption | apply List.Mem.tail))) | apply Pick.there))) | (refine Ent.trans (Ent.drop _ _) ?_))
              · skip
                refine RL.val (Wanted.yes rfl rfl rfl rfl) (V.move rfl rfl) rfl ?_
                refine RL.skip (Wanted.no rfl rfl rfl rfl rfl) rfl ?_
                refine RL.skip (Wanted.no rfl rfl rfl rfl rfl) rfl ?_
                refine RL.skip (Wanted.no rfl rfl rfl rfl rfl) rfl ?_
                refine RL.val (Wanted.yes rfl rfl rfl rfl) (V.pick_false rfl rfl rfl) rfl ?_
                refine RL.val (Wanted.yes rfl rfl rfl rfl) (V.move rfl rfl) rfl ?_
                refine RL.skip (Wanted.no rfl rfl rfl rfl rfl) rfl ?_
                refine RL.skip (Wanted.no rfl rfl rfl rfl rfl) rfl ?_
                refine RL.skip (Wanted.no rfl rfl rfl rfl rfl) rfl ?_
                refine RL.skip (Wanted.no rfl rfl rfl rfl rfl) rfl ?_
                refine RL.skip (Wanted.no rfl rfl rfl rfl rfl) rfl ?_
                refine RL.val (Wanted.yes rfl rfl rfl rfl) (V.pick_false rfl rfl rfl) rfl ?_
                refine RL.val (Wanted.free rfl) (V.pick_false rfl rfl rfl) rfl ?_
                refine RL.nil ?_
                refine SG.cond_false rfl ?_
                refine SG.skip ?_
                refine SG.inBlock ?_
                refine SG.region ?_
                refine RL.val (Wanted.free rfl) (V.move rfl rfl) rfl ?_
                refine RL.val (Wanted.free rfl) (V.bin rfl rfl rfl (B.addI (by omega) (by omega))) rfl ?_
                refine RL.val (Wanted.free rfl) (V.assign rfl rfl) rfl ?_
                refine RL.nil ?_
                first | (refine SG.weaken (ih2 _ _ _ ?_ ⟨j + 1, seen.set T (j : Int), hstl, hset, by omega, rfl, rfl, rfl⟩) ?_ ?_) | (refine SG.weaken (ih2 _ _ _ ?_ ⟨j + 1, seen, hsl, hsn, by omega, rfl, rfl, rfl⟩) ?_ ?_)
                · omega
                · repeat (first | exact EnvLe.nil _ | refine EnvLe.cons rfl ?_)
                · repeat (first | exact Ent.refl _ | (apply Ent.cons; (· repeat (first | exact Pick.here | (refine Pick.sl ?_; (· repeat (first | exact List.Mem.head _ | assumption | apply List.Mem.tail))) | apply Pick.there))) | (refine Ent.trans (Ent.drop _ _) ?_))
          · skip
            refine RL.val (Wanted.free rfl) (V.pick_true rfl rfl rfl) rfl ?_
            refine RL.val (Wanted.free rfl) (V.move rfl rfl) rfl ?_
            refine RL.skip (Wanted.no rfl rfl rfl rfl rfl) rfl ?_
            refine RL.skip (Wanted.no rfl rfl rfl rfl rfl) rfl ?_
            refine RL.skip (Wanted.no rfl rfl rfl rfl rfl) rfl ?_
            refine RL.skip (Wanted.no rfl rfl rfl rfl rfl) rfl ?_
            refine RL.skip (Wanted.no rfl rfl rfl rfl rfl) rfl ?_
            refine RL.skip (Wanted.no rfl rfl rfl rfl rfl) rfl ?_
            refine RL.skip (Wanted.no rfl rfl rfl rfl rfl) rfl ?_
            refine RL.val (Wanted.free rfl) (V.pick_false rfl rfl rfl) rfl ?_
            refine RL.nil ?_
            refine SG.cond_false rfl ?_
            refine SG.skip ?_
            refine SG.seq ?_
            refine SG.seq ?_
            refine SG.region ?_
            refine RL.val (Wanted.free rfl) (V.fieldAddr rfl rfl fo26_4) rfl ?_
            refine RL.val (Wanted.free rfl) (V.load rfl on3 rfl (by repeat (first | exact Pick.here | assumption | apply Pick.there)) rfl) rfl ?_
            refine RL.cmpT (Wanted.free rfl) (V.bin rfl rfl rfl B.eql) rfl (by omega) ?_
            refine RL.nil ?_
            refine SG.cond_true rfl ?_
            have hset := seen_set (j := j) hsn hpk (by assumption) hT
            have hstl : (seen.set T (j : Int)).length = 200 := by rw [List.length_set]; exact hsl
            refine SG.region ?_
            refine RL.val (Wanted.free rfl) (V.move rfl rfl) rfl ?_
            refine RL.val (Wanted.free rfl) (V.fieldAddr rfl rfl fo26_2) rfl ?_
            refine RL.val (Wanted.free rfl) (V.load rfl on3 rfl (by repeat (first | exact Pick.here | assumption | apply Pick.there)) rfl) rfl ?_
            refine RL.val (Wanted.free rfl) (V.move rfl rfl) rfl ?_
            refine RL.val (Wanted.free rfl) (V.indexBuf (j := T) rfl el22.slice rfl rfl (by repeat (first | exact Pick.here | assumption | apply Pick.there)) (by first | rfl | omega) (by omega)) rfl ?_
            refine RL.eff (Wanted.free rfl) (E.storeBuf [vI (j : Int)] rfl sz3 rfl rfl rfl (by repeat (first | exact Pick.here | assumption | apply Pick.there)) (by omega) (fun _ _ _ => ⟨rfl, by unfold inInt; omega⟩)) rfl ?_
            rintro _ _ rfl
            refine RL.nil ?_
            refine SG.seq ?_
            refine SG.seq ?_
            obtain ⟨cq, hcq⟩ : ∃ c, H[i - 1]? = some c := ⟨_, List.getElem?_eq_getElem (by omega)⟩
            have hHq := hH _ _ hcq
            refine SG.elemClu (l := H) (a := a5) (j := i - 1) (by repeat (first | exact List.Mem.head _ | assumption | apply List.Mem.tail)) hcq fun ra rn rc ga gn gc => ?_
            refine SG.sl (T := RPeer) (a := ra) (l := cq.nodes) (by repeat (first | exact List.Mem.head _ | assumption | apply List.Mem.tail)) fun hrn _ _ => ?_
            rw [hHq.len] at hrn
            subst hrn
            refine SG.region ?_
            refine RL.val (Wanted.free rfl) (V.move rfl rfl) rfl ?_
            refine RL.cmp (Wanted.free rfl) (V.bin rfl rfl rfl B.eql) rfl (fun h148 => ?_) (fun h148 => ?_)
            · skip
              refine RL.val (Wanted.free rfl) (V.move rfl rfl) rfl ?_
              refine RL.skip (Wanted.no rfl rfl rfl rfl rfl) rfl ?_
              refine RL.skip (Wanted.no rfl rfl rfl rfl rfl) rfl ?_
              refine RL.skip (Wanted.no rfl rfl rfl rfl rfl) rfl ?_
              refine RL.skip (Wanted.no rfl rfl rfl rfl rfl) rfl ?_
              refine RL.skip (Wanted.no rfl rfl rfl rfl rfl) rfl ?_
              refine RL.skip (Wanted.no rfl rfl rfl rfl rfl) rfl ?_
              refine RL.skip (Wanted.no rfl rfl rfl rfl rfl) rfl ?_
              refine RL.skip (Wanted.no rfl rfl rfl rfl rfl) rfl ?_
              refine RL.skip (Wanted.no rfl rfl rfl rfl rfl) rfl ?_
              refine RL.val (Wanted.free rfl) (V.pick_true rfl rfl rfl) rfl ?_
              refine RL.nil ?_
              refine SG.cond_true rfl ?_
              refine SG.exit rfl ?_
              refine SG.region ?_
              refine RL.val (Wanted.free rfl) (V.move rfl rfl) rfl ?_
              refine RL.val (Wanted.free rfl) (V.bin rfl rfl rfl (B.addI (by omega) (by omega))) rfl ?_
              refine RL.val (Wanted.free rfl) (V.assign rfl rfl) rfl ?_
              refine RL.nil ?_
              first | (refine SG.weaken (ih2 _ _ _ ?_ ⟨j + 1, seen.set T (j : Int), hstl, hset, by omega, rfl, rfl, rfl⟩) ?_ ?_) | (refine SG.weaken (ih2 _ _ _ ?_ ⟨j + 1, seen, hsl, hsn, by omega, rfl, rfl, rfl⟩) ?_ ?_)
              · omega
              · repeat (first | exact EnvLe.nil _ | refine EnvLe.cons rfl ?_)
              · repeat (first | exact Ent.refl _ | (apply Ent.cons; (· repeat (first | exact Pick.here | (refine Pick.sl ?_; (· repeat (first | exact List.Mem.head _ | assumption | apply List.Mem.tail))) | apply Pick.there))) | (refine Ent.trans (Ent.drop _ _) ?_))
            · skip
              refine RL.val (Wanted.free rfl) (V.move rfl rfl) rfl ?_
              refine RL.val (Wanted.yes rfl rfl rfl rfl) (V.move rfl rfl) rfl ?_
              refine RL.val (Wanted.yes rfl rfl rfl rfl) (V.move rfl rfl) rfl ?_
              refine RL.val (Wanted.yes rfl rfl rfl rfl) (V.move rfl rfl) rfl ?_
              refine RL.val (Wanted.yes rfl rfl rfl rfl) (V.bin rfl rfl rfl (B.subI (by omega) (by omega))) rfl ?_
              refine RL.val (Wanted.yes rfl rfl rfl rfl) (V.indexSl (T := RClu) (l := H) (a := a5) (j := i - 1) rfl el31.slice rfl rfl (by repeat (first | exact List.Mem.head _ | assumption | apply List.Mem.tail)) (by omega) (by omega)) rfl ?_
              refine RL.val (Wanted.yes rfl rfl rfl rfl) (V.fieldAt rfl rfl fo37_0 (by repeat (first | exact List.Mem.head _ | assumption | apply List.Mem.tail))) rfl ?_
              refine RL.val (Wanted.yes rfl rfl rfl rfl) (V.loadAtF rfl on34 rfl (by repeat (first | exact List.Mem.head _ | assumption | apply List.Mem.tail)) rfl) rfl ?_
              refine RL.val (Wanted.yes rfl rfl rfl rfl) (V.len rfl rfl el34.under rfl) rfl ?_
              refine RL.cmpF (Wanted.yes rfl rfl rfl rfl) (V.bin rfl rfl rfl B.geq) rfl (by omega) ?_
              refine RL.val (Wanted.free rfl) (V.pick_false rfl rfl rfl) rfl ?_
              refine RL.nil ?_
              refine SG.cond_false rfl ?_
              refine SG.skip ?_
              refine SG.seq ?_
              obtain ⟨hqj, hqk, hqo⟩ := hHq.get (i := j) (by omega)
              obtain ⟨hv1, hv2⟩ := hS (i - 1) cq c hcq (by rw [show i - 1 + 1 = i from by omega]; exact hc) j
              refine SG.region ?_
              refine RL.val (Wanted.free rfl) (V.move rfl rfl) rfl ?_
              refine RL.val (Wanted.free rfl) (V.move rfl rfl) rfl ?_
              refine RL.val (Wanted.free rfl) (V.bin rfl rfl rfl (B.subI (by omega) (by omega))) rfl ?_
              refine RL.val (Wanted.free rfl) (V.indexSl (T := RClu) (l := H) (a := a5) (j := i - 1) rfl el31.slice rfl rfl (by repeat (first | exact List.Mem.head _ | assumption | apply List.Mem.tail)) (by omega) (by omega)) rfl ?_
              refine RL.val (Wanted.free rfl) (V.fieldAt rfl rfl fo37_0 (by repeat (first | exact List.Mem.head _ | assumption | apply List.Mem.tail))) rfl ?_
              refine RL.val (Wanted.free rfl) (V.loadAtF rfl on34 rfl (by repeat (first | exact List.Mem.head _ | assumption | apply List.Mem.tail)) rfl) rfl ?_
              refine RL.val (Wanted.free rfl) (V.move rfl rfl) rfl ?_
              refine RL.val (Wanted.free rfl) (V.indexSl (T := RPeer) (l := cq.nodes) (a := ra) (j := j) rfl el34.slice rfl rfl (by repeat (first | exact List.Mem.head _ | assumption | apply List.Mem.tail)) rfl (by rw [hHq.len]; omega)) rfl ?_
              refine RL.eff (Wanted.free rfl) (E.loadElem (T := RPeer) (l := cq.nodes) (a := ra) (j := j) rfl ag26 rfl (by repeat (first | exact List.Mem.head _ | assumption | apply List.Mem.tail)) hqj) rfl ?_
              rintro _ _ ⟨u114, rfl, rfl⟩
              refine RL.eff (Wanted.free rfl) (E.alloc rfl ze26) rfl ?_
              rintro _ _ ⟨b12, rfl, rfl⟩
              refine RL.openPeer (us := u114) (Pick.rd (T := RPeer) (by repeat (first | exact List.Mem.head _ | assumption | apply List.Mem.tail))) fun qa qn qc wa wn wc ya yn yc hus => ?_
              subst hus
              refine RL.eff (Wanted.free rfl) (E.storeWhole rfl rfl rfl (by rfl) sz26 (by repeat (first | exact Pick.here | assumption | apply Pick.there)) pv_one (by rfl)) rfl ?_
              rintro _ _ rfl
              refine RL.nil ?_
              refine SG.seq ?_
              refine SG.region ?_
              refine RL.val (Wanted.free rfl) (V.fieldAddr rfl rfl fo26_2) rfl ?_
              refine RL.val (Wanted.free rfl) (V.load rfl on3 rfl (by repeat (first | exact Pick.here | assumption | apply Pick.there)) rfl) rfl ?_
              refine RL.val (Wanted.free rfl) (V.fieldAddr rfl rfl fo26_2) rfl ?_
              refine RL.val (Wanted.free rfl) (V.load rfl on3 rfl (by repeat (first | exact Pick.here | assumption | apply Pick.there)) rfl) rfl ?_
              refine RL.cmpF (Wanted.free rfl) (V.bin rfl rfl rfl B.lss) rfl (by omega) ?_
              refine RL.val (Wanted.free rfl) (V.move rfl rfl) rfl ?_
              refine RL.val (Wanted.yes rfl rfl rfl rfl) (V.fieldAddr rfl rfl fo26_2) rfl ?_
              refine RL.val (Wanted.yes rfl rfl rfl rfl) (V.load rfl on3 rfl (by repeat (first | exact Pick.here | assumption | apply Pick.there)) rfl) rfl ?_
              refine RL.val (Wanted.yes rfl rfl rfl rfl) (V.fieldAddr rfl rfl fo26_2) rfl ?_
              refine RL.val (Wanted.yes rfl rfl rfl rfl) (V.load rfl on3 rfl (by repeat (first | exact Pick.here | assumption | apply Pick.there)) rfl) rfl ?_
              refine RL.cmp (Wanted.yes rfl rfl rfl rfl) (V.bin rfl rfl rfl B.eql) rfl (fun h182 => ?_) (fun h182 => ?_)
              · skip
                refine RL.val (Wanted.yes rfl rfl rfl rfl) (V.move rfl rfl) rfl ?_
                refine RL.val (Wanted.yes rfl rfl rfl rfl) (V.fieldAddr rfl rfl fo26_3) rfl ?_
                refine RL.val (Wanted.yes rfl rfl rfl rfl) (V.load rfl on3 rfl (by repeat (first | exact Pick.here | assumption | apply Pick.there)) rfl) rfl ?_
                refine RL.cmp (Wanted.yes rfl rfl rfl rfl) (V.bin rfl rfl rfl B.geq) rfl (fun h186 => ?_) (fun h186 => ?_)
                · skip
                  refine RL.val (Wanted.yes rfl rfl rfl rfl) (V.pick_true rfl rfl rfl) rfl ?_
                  refine RL.val (Wanted.yes rfl rfl rfl rfl) (V.move rfl rfl) rfl ?_
                  refine RL.val (Wanted.yes rfl rfl rfl rfl) (V.fieldAddr rfl rfl fo26_3) rfl ?_
                  refine RL.val (Wanted.yes rfl rfl rfl rfl) (V.load rfl on3 rfl (by repeat (first | exact Pick.here | assumption | apply Pick.there)) rfl) rfl ?_
                  refine RL.val (Wanted.yes rfl rfl rfl rfl) (V.fieldAddr rfl rfl fo26_3) rfl ?_
                  refine RL.val (Wanted.yes rfl rfl rfl rfl) (V.load rfl on3 rfl (by repeat (first | exact Pick.here | assumption | apply Pick.there)) rfl) rfl ?_
                  refine RL.cmpF (Wanted.yes rfl rfl rfl rfl) (V.bin rfl rfl rfl B.neq) rfl (by have := hv2 (by omega) (by omega); omega) ?_
                  refine RL.val (Wanted.yes rfl rfl rfl rfl) (V.pick_true rfl rfl rfl) rfl ?_
                  refine RL.val (Wanted.free rfl) (V.pick_false rfl rfl rfl) rfl ?_
                  refine RL.nil ?_
                  refine SG.cond_false rfl ?_
                  refine SG.skip ?_
                  refine SG.inBlock ?_
                  refine SG.region ?_
                  refine RL.val (Wanted.free rfl) (V.move rfl rfl) rfl ?_
                  refine RL.val (Wanted.free rfl) (V.bin rfl rfl rfl (B.addI (by omega) (by omega))) rfl ?_
                  refine RL.val (Wanted.free rfl) (V.assign rfl rfl) rfl ?_
                  refine RL.nil ?_
                  first | (refine SG.weaken (ih2 _ _ _ ?_ ⟨j + 1, seen.set T (j : Int), hstl, hset, by omega, rfl, rfl, rfl⟩) ?_ ?_) | (refine SG.weaken (ih2 _ _ _ ?_ ⟨j + 1, seen, hsl, hsn, by omega, rfl, rfl, rfl⟩) ?_ ?_)
                  · omega
                  · repeat (first | exact EnvLe.nil _ | refine EnvLe.cons rfl ?_)
                  · repeat (first | exact Ent.refl _ | (apply Ent.cons; (· repeat (first | exact Pick.here | (refine Pick.sl ?_; (· repeat (first | exact List.Mem.head _ | assumption | apply List.Mem.tail))) | apply Pick.there))) | (refine Ent.trans (Ent.drop _ _) ?_))
                · skip
                  refine RL.val (Wanted.yes rfl rfl rfl rfl) (V.pick_true rfl rfl rfl) rfl ?_
                  refine RL.val (Wanted.yes rfl rfl rfl rfl) (V.move rfl rfl) rfl ?_
                  refine RL.skip (Wanted.no rfl rfl rfl rfl rfl) rfl ?_
                  refine RL.skip (Wanted.no rfl rfl rfl rfl rfl) rfl ?_
                  refine RL.skip (Wanted.no rfl rfl rfl rfl rfl) rfl ?_
                  refine RL.skip (Wanted.no rfl rfl rfl rfl rfl) rfl ?_
                  refine RL.skip (Wanted.no rfl rfl rfl rfl rfl) rfl ?_
                  refine RL.val (Wanted.yes rfl rfl rfl rfl) (V.pick_false rfl rfl rfl) rfl ?_
                  refine RL.val (Wanted.free rfl) (V.pick_false rfl rfl rfl) rfl ?_
                  refine RL.nil ?_
                  refine SG.cond_false rfl ?_
                  refine SG.skip ?_
                  refine SG.inBlock ?_
                  refine SG.region ?_
                  refine RL.val (Wanted.free rfl) (V.move rfl rfl) rfl ?_
                  refine RL.val (Wanted.free rfl) (V.bin rfl rfl rfl (B.addI (by omega) (by omega))) rfl ?_
                  refine RL.val (Wanted.free rfl) (V.assign rfl rfl) rfl ?_
                  refine RL.nil ?_
                  first | (refine SG.weaken (ih2 _ _ _ ?_ ⟨j + 1, seen.set T (j : Int), hstl, hset, by omega, rfl, rfl, rfl⟩) ?_ ?_) | (refine SG.weaken (ih2 _ _ _ ?_ ⟨j + 1, seen, hsl, hsn, by omega, rfl, rfl, rfl⟩) ?_ ?_)
                  · omega
                  · repeat (first | exact EnvLe.nil _ | refine EnvLe.cons rfl ?_)
                  · repeat (first | exact Ent.refl _ | (apply Ent.cons; (· repeat (first | exact Pick.here | (refine Pick.sl ?_; (· repeat (first | exact List.Mem.head _ | assumption | apply List.Mem.tail))) | apply Pick.there))) | (refine Ent.trans (Ent.drop _ _) ?_))
              · skip
                refine RL.val (Wanted.yes rfl rfl rfl rfl) (V.move rfl rfl) rfl ?_
                refine RL.skip (Wanted.no rfl rfl rfl rfl rfl) rfl ?_
                refine RL.skip (Wanted.no rfl rfl rfl rfl rfl) rfl ?_
                refine RL.skip (Wanted.no rfl rfl rfl rfl rfl) rfl ?_
                refine RL.val (Wanted.yes rfl rfl rfl rfl) (V.pick_false rfl rfl rfl) rfl ?_
                refine RL.val (Wanted.yes rfl rfl rfl rfl) (V.move rfl rfl) rfl ?_
                refine RL.skip (Wanted.no rfl rfl rfl rfl rfl) rfl ?_
                refine RL.skip (Wanted.no rfl rfl rfl rfl rfl) rfl ?_
                refine RL.skip (Wanted.no rfl rfl rfl rfl rfl) rfl ?_
                refine RL.skip (Wanted.no rfl rfl rfl rfl rfl) rfl ?_
                refine RL.skip (Wanted.no rfl rfl rfl rfl rfl) rfl ?_
                refine RL.val (Wanted.yes rfl rfl rfl rfl) (V.pick_false rfl rfl rfl) rfl ?_
                refine RL.val (Wanted.free rfl) (V.pick_false rfl rfl rfl) rfl ?_
                refine RL.nil ?_
                refine SG.cond_false rfl ?_
                refine SG.skip ?_
                refine SG.inBlock ?_
                refine SG.region ?_
                refine RL.val (Wanted.free rfl) (V.move rfl rfl) rfl ?_
                refine RL.val (Wanted.free rfl) (V.bin rfl rfl rfl (B.addI (by omega) (by omega))) rfl ?_
                refine RL.val (Wanted.free rfl) (V.assign rfl rfl) rfl ?_
                refine RL.nil ?_
                first | (refine SG.weaken (ih2 _ _ _ ?_ ⟨j + 1, seen.set T (j : Int), hstl, hset, by omega, rfl, rfl, rfl⟩) ?_ ?_) | (refine SG.weaken (ih2 _ _ _ ?_ ⟨j + 1, seen, hsl, hsn, by omega, rfl, rfl, rfl⟩) ?_ ?_)
                · omega
                · repeat (first | exact EnvLe.nil _ | refine EnvLe.cons rfl ?_)
                · repeat (first | exact Ent.refl _ | (apply Ent.cons; (· repeat (first | exact Pick.here | (refine Pick.sl ?_; (· repeat (first | exact List.Mem.head _ | assumption | apply List.Mem.tail))) | apply Pick.there))) | (refine Ent.trans (Ent.drop _ _) ?_))
        · skip
          refine RL.val (Wanted.free rfl) (V.move rfl rfl) rfl ?_
          refine RL.skip (Wanted.no rfl rfl rfl rfl rfl) rfl ?_
          refine RL.skip (Wanted.no rfl rfl rfl rfl rfl) rfl ?_
          refine RL.skip (Wanted.no rfl rfl rfl rfl rfl) rfl ?_
          refine RL.skip (Wanted.no rfl rfl rfl rfl rfl) rfl ?_
          refine RL.skip (Wanted.no rfl rfl rfl rfl rfl) rfl ?_
          refine RL.skip (Wanted.no rfl rfl rfl rfl rfl) rfl ?_
          refine RL.val (Wanted.free rfl) (V.pick_false rfl rfl rfl) rfl ?_
          refine RL.val (Wanted.free rfl) (V.move rfl rfl) rfl ?_
          refine RL.skip (Wanted.no rfl rfl rfl rfl rfl) rfl ?_
          refine RL.skip (Wanted.no rfl rfl rfl rfl rfl) rfl ?_
          refine RL.skip (Wanted.no rfl rfl rfl rfl rfl) rfl ?_
          refine RL.skip (Wanted.no rfl rfl rfl rfl rfl) rfl ?_
          refine RL.skip (Wanted.no rfl rfl rfl rfl rfl) rfl ?_
          refine RL.skip (Wanted.no rfl rfl rfl rfl rfl) rfl ?_
          refine RL.skip (Wanted.no rfl rfl rfl rfl rfl) rfl ?_
          refine RL.val (Wanted.free rfl) (V.pick_false rfl rfl rfl) rfl ?_
          refine RL.nil ?_
          refine SG.cond_false rfl ?_
          refine SG.skip ?_
          refine SG.seq ?_
          refine SG.seq ?_
          refine SG.region ?_
          refine RL.val (Wanted.free rfl) (V.fieldAddr rfl rfl fo26_4) rfl ?_
          refine RL.val (Wanted.free rfl) (V.load rfl on3 rfl (by repeat (first | exact Pick.here | assumption | apply Pick.there)) rfl) rfl ?_
          refine RL.cmpF (Wanted.free rfl) (V.bin rfl rfl rfl B.eql) rfl (by omega) ?_
          refine RL.nil ?_
          refine SG.cond_false rfl ?_
          refine SG.skip ?_
          refine SG.seq ?_
          refine SG.seq ?_
          obtain ⟨cq, hcq⟩ : ∃ c, H[i - 1]? = some c := ⟨_, List.getElem?_eq_getElem (by omega)⟩
          have hHq := hH _ _ hcq
          refine SG.elemClu (l := H) (a := a5) (j := i - 1) (by repeat (first | exact List.Mem.head _ | assumption | apply List.Mem.tail)) hcq fun ra rn rc ga gn gc => ?_
          refine SG.sl (T := RPeer) (a := ra) (l := cq.nodes) (by repeat (first | exact List.Mem.head _ | assumption | apply List.Mem.tail)) fun hrn _ _ => ?_
          rw [hHq.len] at hrn
          subst hrn
          refine SG.region ?_
          refine RL.val (Wanted.free rfl) (V.move rfl rfl) rfl ?_
          refine RL.cmp (Wanted.free rfl) (V.bin rfl rfl rfl B.eql) rfl (fun h209 => ?_) (fun h209 => ?_)
          · skip
            refine RL.val (Wanted.free rfl) (V.move rfl rfl) rfl ?_
            refine RL.skip (Wanted.no rfl rfl rfl rfl rfl) rfl ?_
            refine RL.skip (Wanted.no rfl rfl rfl rfl rfl) rfl ?_
            refine RL.skip (Wanted.no rfl rfl rfl rfl rfl) rfl ?_
            refine RL.skip (Wanted.no rfl rfl rfl rfl rfl) rfl ?_
            refine RL.skip (Wanted.no rfl rfl rfl rfl rfl) rfl ?_
            refine RL.skip (Wanted.no rfl rfl rfl rfl rfl) rfl ?_
            refine RL.skip (Wanted.no rfl rfl rfl rfl rfl) rfl ?_
            refine RL.skip (Wanted.no rfl rfl rfl rfl rfl) rfl ?_
            refine RL.skip (Wanted.no rfl rfl rfl rfl rfl) rfl ?_
            refine RL.val (Wanted.free rfl) (V.pick_true rfl rfl rfl) rfl ?_
            refine RL.nil ?_
            refine SG.cond_true rfl ?_
            refine SG.exit rfl ?_
            refine SG.region ?_
            refine RL.val (Wanted.free rfl) (V.move rfl rfl) rfl ?_
            refine RL.val (Wanted.free rfl) (V.bin rfl rfl rfl (B.addI (by omega) (by omega))) rfl ?_
            refine RL.val (Wanted.free rfl) (V.assign rfl rfl) rfl ?_
            refine RL.nil ?_
            first | (refine SG.weaken (ih2 _ _ _ ?_ ⟨j + 1, seen.set T (j : Int), hstl, hset, by omega, rfl, rfl, rfl⟩) ?_ ?_) | (refine SG.weaken (ih2 _ _ _ ?_ ⟨j + 1, seen, hsl, hsn, by omega, rfl, rfl, rfl⟩) ?_ ?_)
            · omega
            · repeat (first | exact EnvLe.nil _ | refine EnvLe.cons rfl ?_)
            · repeat (first | exact Ent.refl _ | (apply Ent.cons; (· repeat (first | exact Pick.here | (refine Pick.sl ?_; (· repeat (first | exact List.Mem.head _ | assumption | apply List.Mem.tail))) | apply Pick.there))) | (refine Ent.trans (Ent.drop _ _) ?_))
          · skip
            refine RL.val (Wanted.free rfl) (V.move rfl rfl) rfl ?_
            refine RL.val (Wanted.yes rfl rfl rfl rfl) (V.move rfl rfl) rfl ?_
            refine RL.val (Wanted.yes rfl rfl rfl rfl) (V.move rfl rfl) rfl ?_
            refine RL.val (Wanted.yes rfl rfl rfl rfl) (V.move rfl rfl) rfl ?_
            refine RL.val (Wanted.yes rfl rfl rfl rfl) (V.bin rfl rfl rfl (B.subI (by omega) (by omega))) rfl ?_
            refine RL.val (Wanted.yes rfl rfl rfl rfl) (V.indexSl (T := RClu) (l := H) (a := a5) (j := i - 1) rfl el31.slice rfl rfl (by repeat (first | exact List.Mem.head _ | assumption | apply List.Mem.tail)) (by omega) (by omega)) rfl ?_
            refine RL.val (Wanted.yes rfl rfl rfl rfl) (V.fieldAt rfl rfl fo37_0 (by repeat (first | exact List.Mem.head _ | assumption | apply List.Mem.tail))) rfl ?_
            refine RL.val (Wanted.yes rfl rfl rfl rfl) (V.loadAtF rfl on34 rfl (by repeat (first | exact List.Mem.head _ | assumption | apply List.Mem.tail)) rfl) rfl ?_
            refine RL.val (Wanted.yes rfl rfl rfl rfl) (V.len rfl rfl el34.under rfl) rfl ?_
            refine RL.cmpF (Wanted.yes rfl rfl rfl rfl) (V.bin rfl rfl rfl B.geq) rfl (by omega) ?_
            refine RL.val (Wanted.free rfl) (V.pick_false rfl rfl rfl) rfl ?_
            refine RL.nil ?_
            refine SG.cond_false rfl ?_
            refine SG.skip ?_
            refine SG.seq ?_
            obtain ⟨hqj, hqk, hqo⟩ := hHq.get (i := j) (by omega)
            obtain ⟨hv1, hv2⟩ := hS (i - 1) cq c hcq (by rw [show i - 1 + 1 = i from by omega]; exact hc) j
            refine SG.region ?_
            refine RL.val (Wanted.free rfl) (V.move rfl rfl) rfl ?_
            refine RL.val (Wanted.free rfl) (V.move rfl rfl) rfl ?_
            refine RL.val (Wanted.free rfl) (V.bin rfl rfl rfl (B.subI (by omega) (by omega))) rfl ?_
            refine RL.val (Wanted.free rfl) (V.indexSl (T := RClu) (l := H) (a := a5) (j := i - 1) rfl el31.slice rfl rfl (by repeat (first | exact List.Mem.head _ | assumption | apply List.Mem.tail)) (by omega) (by omega)) rfl ?_
            refine RL.val (Wanted.free rfl) (V.fieldAt rfl rfl fo37_0 (by repeat (first | exact List.Mem.head _ | assumption | apply List.Mem.tail))) rfl ?_
            refine RL.val (Wanted.free rfl) (V.loadAtF rfl on34 rfl (by repeat (first | exact List.Mem.head _ | assumption | apply List.Mem.tail)) rfl) rfl ?_
            refine RL.val (Wanted.free rfl) (V.move rfl rfl) rfl ?_
            refine RL.val (Wanted.free rfl) (V.indexSl (T := RPeer) (l := cq.nodes) (a := ra) (j := j) rfl el34.slice rfl rfl (by repeat (first | exact List.Mem.head _ | assumption | apply List.Mem.tail)) rfl (by rw [hHq.len]; omega)) rfl ?_
            refine RL.eff (Wanted.free rfl) (E.loadElem (T := RPeer) (l := cq.nodes) (a := ra) (j := j) rfl ag26 rfl (by repeat (first | exact List.Mem.head _ | assumption | apply List.Mem.tail)) hqj) rfl ?_
            rintro _ _ ⟨u114, rfl, rfl⟩
            refine RL.eff (Wanted.free rfl) (E.alloc rfl ze26) rfl ?_
            rintro _ _ ⟨b12, rfl, rfl⟩
            refine RL.openPeer (us := u114) (Pick.rd (T := RPeer) (by repeat (first | exact List.Mem.head _ | assumption | apply List.Mem.tail))) fun qa qn qc wa wn wc ya yn yc hus => ?_
            subst hus
            refine RL.eff (Wanted.free rfl) (E.storeWhole rfl rfl rfl (by rfl) sz26 (by repeat (first | exact Pick.here | assumption | apply Pick.there)) pv_one (by rfl)) rfl ?_
            rintro _ _ rfl
            refine RL.nil ?_
            refine SG.seq ?_
            refine SG.region ?_
            refine RL.val (Wanted.free rfl) (V.fieldAddr rfl rfl fo26_2) rfl ?_
            refine RL.val (Wanted.free rfl) (V.load rfl on3 rfl (by repeat (first | exact Pick.here | assumption | apply Pick.there)) rfl) rfl ?_
            refine RL.val (Wanted.free rfl) (V.fieldAddr rfl rfl fo26_2) rfl ?_
            refine RL.val (Wanted.free rfl) (V.load rfl on3 rfl (by repeat (first | exact Pick.here | assumption | apply Pick.there)) rfl) rfl ?_
            refine RL.cmpF (Wanted.free rfl) (V.bin rfl rfl rfl B.lss) rfl (by omega) ?_
            refine RL.val (Wanted.free rfl) (V.move rfl rfl) rfl ?_
            refine RL.val (Wanted.yes rfl rfl rfl rfl) (V.fieldAddr rfl rfl fo26_2) rfl ?_
            refine RL.val (Wanted.yes rfl rfl rfl rfl) (V.load rfl on3 rfl (by repeat (first | exact Pick.here | assumption | apply Pick.there)) rfl) rfl ?_
            refine RL.val (Wanted.yes rfl rfl rfl rfl) (V.fieldAddr rfl rfl fo26_2) rfl ?_
            refine RL.val (Wanted.yes rfl rfl rfl rfl) (V.load rfl on3 rfl (by repeat (first | exact Pick.here | assumption | apply Pick.there)) rfl) rfl ?_
            refine RL.cmp (Wanted.yes rfl rfl rfl rfl) (V.bin rfl rfl rfl B.eql) rfl (fun h243 => ?_) (fun h243 => ?_)
            · skip
              refine RL.val (Wanted.yes rfl rfl rfl rfl) (V.move rfl rfl) rfl ?_
              refine RL.val (Wanted.yes rfl rfl rfl rfl) (V.fieldAddr rfl rfl fo26_3) rfl ?_
              refine RL.val (Wanted.yes rfl rfl rfl rfl) (V.load rfl on3 rfl (by repeat (first | exact Pick.here | assumption | apply Pick.there)) rfl) rfl ?_
              refine RL.cmp (Wanted.yes rfl rfl rfl rfl) (V.bin rfl rfl rfl B.geq) rfl (fun h247 => ?_) (fun h247 => ?_)
              · skip
                refine RL.val (Wanted.yes rfl rfl rfl rfl) (V.pick_true rfl rfl rfl) rfl ?_
                refine RL.val (Wanted.yes rfl rfl rfl rfl) (V.move rfl rfl) rfl ?_
                refine RL.val (Wanted.yes rfl rfl rfl rfl) (V.fieldAddr rfl rfl fo26_3) rfl ?_
                refine RL.val (Wanted.yes rfl rfl rfl rfl) (V.load rfl on3 rfl (by repeat (first | exact Pick.here | assumption | apply Pick.there)) rfl) rfl ?_
                refine RL.val (Wanted.yes rfl rfl rfl rfl) (V.fieldAddr rfl rfl fo26_3) rfl ?_
                refine RL.val (Wanted.yes rfl rfl rfl rfl) (V.load rfl on3 rfl (by repeat (first | exact Pick.here | assumption | apply Pick.there)) rfl) rfl ?_
                refine RL.cmpF (Wanted.yes rfl rfl rfl rfl) (V.bin rfl rfl rfl B.neq) rfl (by have := hv2 (by omega) (by omega); omega) ?_
                refine RL.val (Wanted.yes rfl rfl rfl rfl) (V.pick_true rfl rfl rfl) rfl ?_
                refine RL.val (Wanted.free rfl) (V.pick_false rfl rfl rfl) rfl ?_
                refine RL.nil ?_
                refine SG.cond_false rfl ?_
                refine SG.skip ?_
                refine SG.inBlock ?_
                refine SG.region ?_
                refine RL.val (Wanted.free rfl) (V.move rfl rfl) rfl ?_
                refine RL.val (Wanted.free rfl) (V.bin rfl rfl rfl (B.addI (by omega) (by omega))) rfl ?_
                refine RL.val (Wanted.free rfl) (V.assign rfl rfl) rfl ?_
                refine RL.nil ?_
                first | (refine SG.weaken (ih2 _ _ _ ?_ ⟨j + 1, seen.set T (j : Int), hstl, hset, by omega, rfl, rfl, rfl⟩) ?_ ?_) | (refine SG.weaken (ih2 _ _ _ ?_ ⟨j + 1, seen, hsl, hsn, by omega, rfl, rfl, rfl⟩) ?_ ?_)
                · omega
                · repeat (first | exact EnvLe.nil _ | refine EnvLe.cons rfl ?_)
                · repeat (first | exact Ent.refl _ | (apply Ent.cons; (· repeat (first | exact Pick.here | (refine Pick.sl ?_; (· repeat (first | exact List.Mem.head _ | assumption | apply List.Mem.tail))) | apply Pick.there))) | (refine Ent.trans (Ent.drop _ _) ?_))
              · skip
                refine RL.val (Wanted.yes rfl rfl rfl rfl) (V.pick_true rfl rfl rfl) rfl ?_
                refine RL.val (Wanted.yes rfl rfl rfl rfl) (V.move rfl rfl) rfl ?_
                refine RL.skip (Wanted.no rfl rfl rfl rfl rfl) rfl ?_
                refine RL.skip (Wanted.no rfl rfl rfl rfl rfl) rfl ?_
                refine RL.skip (Wanted.no rfl rfl rfl rfl rfl) rfl ?_
                refine RL.skip (Wanted.no rfl rfl rfl rfl rfl) rfl ?_
                refine RL.skip (Wanted.no rfl rfl rfl rfl rfl) rfl ?_
                refine RL.val (Wanted.yes rfl rfl rfl rfl) (V.pick_false rfl rfl rfl) rfl ?_
                refine RL.val (Wanted.free rfl) (V.pick_false rfl rfl rfl) rfl ?_
                refine RL.nil ?_
                refine SG.cond_false rfl ?_
                refine SG.skip ?_
                refine SG.inBlock ?_
                refine SG.region ?_
                refine RL.val (Wanted.free rfl) (V.move rfl rfl) rfl ?_
                refine RL.val (Wanted.free rfl) (V.bin rfl rfl rfl (B.addI (by omega) (by omega))) rfl ?_
                refine RL.val (Wanted.free rfl) (V.assign rfl rfl) rfl ?_
                refine RL.nil ?_
                first | (refine SG.weaken (ih2 _ _ _ ?_ ⟨j + 1, seen.set T (j : Int), hstl, hset, by omega, rfl, rfl, rfl⟩) ?_ ?_) | (refine SG.weaken (ih2 _ _ _ ?_ ⟨j + 1, seen, hsl, hsn, by omega, rfl, rfl, rfl⟩) ?_ ?_)
                · omega
                · repeat (first | exact EnvLe.nil _ | refine EnvLe.cons rfl ?_)
                · repeat (first | exact Ent.refl _ | (apply Ent.cons; (· repeat (first | exact Pick.here | (refine Pick.sl ?_; (· repeat (first | exact List.Mem.head _ | assumption | apply List.Mem.tail))) | apply Pick.there))) | (refine Ent.trans (Ent.drop _ _) ?_))
            · skip
              refine RL.val (Wanted.yes rfl rfl rfl rfl) (V.move rfl rfl) rfl ?_
              refine RL.skip (Wanted.no rfl rfl rfl rfl rfl) rfl ?_
              refine RL.skip (Wanted.no rfl rfl rfl rfl rfl) rfl ?_
              refine RL.skip (Wanted.no rfl rfl rfl rfl rfl) rfl ?_
              refine RL.val (Wanted.yes rfl rfl rfl rfl) (V.pick_false rfl rfl rfl) rfl ?_
              refine RL.val (Wanted.yes rfl rfl rfl rfl) (V.move rfl rfl) rfl ?_
              refine RL.skip (Wanted.no rfl rfl rfl rfl rfl) rfl ?_
              refine RL.skip (Wanted.no rfl rfl rfl rfl rfl) rfl ?_
              refine RL.skip (Wanted.no rfl rfl rfl rfl rfl) rfl ?_
              refine RL.skip (Wanted.no rfl rfl rfl rfl rfl) rfl ?_
              refine RL.skip (Wanted.no rfl rfl rfl rfl rfl) rfl ?_
              refine RL.val (Wanted.yes rfl rfl rfl rfl) (V.pick_false rfl rfl rfl) rfl ?_
              refine RL.val (Wanted.free rfl) (V.pick_false rfl rfl rfl) rfl ?_
              refine RL.nil ?_
              refine SG.cond_false rfl ?_
              refine SG.skip ?_
              refine SG.inBlock ?_
              refine SG.region ?_
              refine RL.val (Wanted.free rfl) (V.move rfl rfl) rfl ?_
              refine RL.val (Wanted.free rfl) (V.bin rfl rfl rfl (B.addI (by omega) (by omega))) rfl ?_
              refine RL.val (Wanted.free rfl) (V.assign rfl rfl) rfl ?_
              refine RL.nil ?_
              first | (refine SG.weaken (ih2 _ _ _ ?_ ⟨j + 1, seen.set T (j : Int), hstl, hset, by omega, rfl, rfl, rfl⟩) ?_ ?_) | (refine SG.weaken (ih2 _ _ _ ?_ ⟨j + 1, seen, hsl, hsn, by omega, rfl, rfl, rfl⟩) ?_ ?_)
              · omega
              · repeat (first | exact EnvLe.nil _ | refine EnvLe.cons rfl ?_)
              · repeat (first | exact Ent.refl _ | (apply Ent.cons; (· repeat (first | exact Pick.here | (refine Pick.sl ?_; (· repeat (first | exact List.Mem.head _ | assumption | apply List.Mem.tail))) | apply Pick.there))) | (refine Ent.trans (Ent.drop _ _) ?_))
      · skip
        refine RL.nil ?_
        refine SG.cond_false rfl ?_
        refine SG.exit rfl ?_
        refine SG.inBlock ?_
        refine SG.region ?_
        refine RL.val (Wanted.free rfl) (V.move rfl rfl) rfl ?_
        refine RL.val (Wanted.free rfl) (V.bin rfl rfl rfl (B.addI (by omega) (by omega))) rfl ?_
        refine RL.val (Wanted.free rfl) (V.assign rfl rfl) rfl ?_
        refine RL.nil ?_
        refine SG.weaken (ih1 _ _ _ ?_ ⟨i + 1, seen, hsl, hsn, by omega, rfl, rfl, rfl⟩) ?_ ?_
        · omega
        · repeat (first | exact EnvLe.nil _ | refine EnvLe.cons rfl ?_)
        · repeat (first | exact Ent.refl _ | (apply Ent.cons; (· repeat (first | exact Pick.here | (refine Pick.sl ?_; (· repeat (first | exact List.Mem.head _ | assumption | apply List.Mem.tail))) | apply Pick.there))) | (refine Ent.trans (Ent.drop _ _) ?_))
    · skip
      refine RL.nil ?_
      refine SG.cond_false rfl ?_
      refine SG.exit rfl ?_
      refine SG.seq ?_
      refine SG.region ?_
      refine RL.eff (Wanted.free rfl) (E.call rfl go28 rfl (lives_ok)) rfl ?_
      rintro _ _ ⟨rfl, rfl⟩
      refine RL.val (Wanted.free rfl) (V.assign rfl rfl) rfl ?_
      refine RL.nil ?_
      refine SG.retE (Ret.r1 Try.func6 rfl (.tmp rfl)) ?_ ⟨rfl, rfl⟩
      repeat (first | exact Ent.refl _ | (apply Ent.cons; (· repeat (first | exact Pick.here | (refine Pick.sl ?_; (· repeat (first | exact List.Mem.head _ | assumption | apply List.Mem.tail))) | apply Pick.there))) | (refine Ent.trans (Ent.drop _ _) ?_))

end Go.Proofs.Ytilcnglcflohoaa
