/- The law MerkleLogs. -/
import Derived.Test.YtcbloadpffjkiaaDoorZTorns
import Derived.Test.YtcbloadpffjkiaaDoorZSyncs
import Derived.Test.YtcbloadpffjkiaaDoorZMincl
import Derived.Test.YtcbloadpffjkiaaDoorZMext2
namespace Go.Proofs.YtcbloadpffjkiaaDoor
open Go.Wk Go.Mk Go.Sha Go.Wl Go.Dsk

theorem Sep.slInts {κ w : World} {L : List Assn} {a : Option Addr} {m c : Nat} {l : List Int} (hs : Sep κ w L) (hm : Sl RI a m c l ∈ L) : ∀ x ∈ l, inInt x := by
  obtain ⟨z, _, k1, _, _, k4⟩ := hs.sl hm
  rcases k4 with k4 | ⟨_, _, _, _, _, hr⟩
  · intro x hx
    have : l = [] := List.eq_nil_of_length_eq_zero (by omega)
    rw [this] at hx; cases hx
  · exact (rows_sc.1 hr).2
theorem used_le60 : ∀ {bs : List (List UInt8)}, (∀ y ∈ bs, y.length ≤ 60) → usedV bs ≤ 72 * bs.length
  | [], _ => Nat.le_refl _
  | y :: bs, h => by
    have h1 := h y (List.mem_cons_self ..)
    have h2 := used_le60 (bs := bs) fun z hz => h z (List.mem_cons_of_mem _ hz)
    unfold usedV at h2 ⊢
    simp only [List.map_cons, List.sum_cons, List.length_cons]; omega
theorem room_ok {g : Lg} {n : Nat} (hn : g.n = 20) (hu : g.used = (n : Int)) (h : n ≤ 792) {k : Nat} (hk : k ≤ 60) : (k : Int) ≤ roomV g := by unfold roomV; rw [hn, hu]; omega
theorem back_take {D : Dk} {f n : Int} {g : Lg} {rs : List (List UInt8)} (h : Back D f n g false rs) : betw rs g.synced g.recs := h.old.elim id fun h => absurd h.1 (by decide)
theorem last_keep {bs : List (List UInt8)} {x : List UInt8} {k : Nat} (h : k ≤ bs.length) : ((bs ++ [x]).map leaf).take k = (bs.map leaf).take k := by
  rw [List.map_append, List.take_append_of_le_length (by rw [List.length_map]; exact h)]
theorem last_of {bs rs : List (List UInt8)} {k : Nat} (h : rs = bs.take rs.length) (hk : k ≤ rs.length) : (bs.map leaf).take k = (rs.map leaf).take k := by
  rw [h, List.map_take, List.take_take]; congr 1; omega
theorem map_snoc {rs : List (List UInt8)} {i : Nat} {x : List UInt8} (h : rs[i]? = some x) : (rs.take (i + 1)).map leaf = (rs.take i).map leaf ++ [leaf x] := by simp [List.take_add_one, h]
theorem map32 {bs : List (List UInt8)} : ∀ x ∈ bs.map leaf, x.length = 32 := fun x hx => by
  obtain ⟨y, _, rfl⟩ := List.mem_map.1 hx
  exact leaf_length _
theorem topB_ok {κ : World} {L : List Assn} {a : Option Addr} {m c : Nat} {n : Int} {s : List Hs} (hb : s.length ≤ 1000) (hm : Sl (RArr8 32) a m c (blocksV s) ∈ L) (hT : Tab L) : Ctr Tryd.prog 23 #[.agg #[vI n, .slice a m c]] κ L (fun v M => v = .agg ((rootV s).map v8).toArray ∧ M = L) := by
  have := top_ok (κ := κ) (n := n) hm hT (by have := blocks_le s; omega)
  rwa [top_blocks _ s (Nat.le_refl _)] at this
theorem appC_ok {κ : World} {L : List Assn} {a : Option Addr} {m c : Nat} {bs : List (List UInt8)} {y : List UInt8} (hb : bs.length ≤ 1000) (hm : Sl (RArr8 32) a m c (blocksV (bs.map leaf)) ∈ L) (hT : Tab L) : Ctr Tryd.prog 24 #[.agg #[vI (bs.length : Int), .slice a m c], .agg ((leaf y).map v8).toArray] κ L (fun v M => ∃ a2 c2, v = .agg #[vI ((bs.length : Int) + 1), .slice a2 (blocksV ((bs ++ [y]).map leaf)).length c2] ∧ M = Sl (RArr8 32) a2 (blocksV ((bs ++ [y]).map leaf)).length c2 (blocksV ((bs ++ [y]).map leaf)) :: L) := by
  have h1 := Go.Mk.blocks_snoc _ (bs.map leaf) (leaf y) (Nat.le_refl _)
  have h3 := blocks_len _ (bs.map leaf) (Nat.le_refl _)
  rw [List.length_map] at h1 h3
  have := append_ok (κ := κ) (n := bs.length) hm (leaf_length y) hT (by omega) h3
  rwa [h1, show bs.map leaf ++ [leaf y] = (bs ++ [y]).map leaf from by simp] at this
theorem growE_zero {n : Nat} {m : Nat} (h : m ≤ n) : growE n (m : Int) = 0 := if_neg (by omega)
theorem ext_growL {l : List Hs} {m : Nat} (h : l.length ≤ 65536) (hm : m ≤ l.length) : extV (rootV (l.take m)) (m : Int) (rootV l) (l.length : Int) (growL l (m : Int)) = true := by
  rcases Nat.eq_zero_or_pos m with h0 | h0
  · subst h0
    rw [show ((0 : Nat) : Int) = 0 from rfl, (growL_zero l).2, ext_zero (by omega), List.take_zero]
    unfold extZ
    rcases Nat.eq_zero_or_pos l.length with h1 | h1
    · rw [List.eq_nil_of_length_eq_zero h1]; simp
    · simp
      exact .inl h1
  · rw [(growL_ok h0 hm).2]; exact ext_grow h h0 hm
theorem ext_growT {l : List Hs} {j m : Nat} (h : l.length ≤ 65536) (hj : j ≤ l.length) (hm : m ≤ j) : extV (rootV (l.take m)) (m : Int) (rootV (l.take j)) (j : Int) (growL (l.take j) (m : Int)) = true := by
  have hl : (l.take j).length = j := by rw [List.length_take]; omega
  have := ext_growL (l := l.take j) (m := m) (by omega) (by omega)
  rwa [hl, List.take_take, show min m j = m from by omega] at this
set_option maxRecDepth 100000 in
set_option maxHeartbeats 1000000 in
theorem few_ok {κ : World} {L : List Assn} {a : Option Addr} {m c : Nat} {l : List UInt8} {k : Nat} (hm : Sl R8 a m c l ∈ L) (hk2 : k ≤ 1000000) :
    Ctr Tryd.prog 36 #[.slice a m c, vI (k : Int)] κ L (fun v M => ∃ a' k' c', v = .slice a' k' c' ∧ M = Buf R8 5 a' k' c' (l.take k) :: L) := by
 refine Ctr.enter (vs := [.slice a m c, vI (k : Int)]) (m := 14) Tryd.func36 rfl rfl rfl ?_
 refine SG.sl hm fun hl _ _ => ?_
 refine SG.seq ?_
 refine SG.region ?_
 refine RL.val (Wanted.free rfl) (V.assign rfl rfl) rfl ?_
 refine RL.nil ?_
 refine SG.seq ?_
 refine SG.region ?_
 refine RL.val (Wanted.free rfl) (V.assign rfl rfl) rfl ?_
 refine RL.nil ?_
 refine SG.seq ?_
 refine SG.region ?_
 refine RL.val (Wanted.free rfl) (V.move rfl rfl) rfl ?_
 refine RL.val (Wanted.free rfl) (V.move rfl rfl) rfl ?_
 refine RL.val (Wanted.free rfl) (V.move rfl rfl) rfl ?_
 refine RL.val (Wanted.free rfl) (V.len rfl rfl el62.under rfl) rfl ?_
 refine RL.val (Wanted.free rfl) (V.move rfl rfl) rfl ?_
 refine RL.val (Wanted.free rfl) (V.min rfl rfl rfl rfl) rfl ?_
 refine RL.eff (Wanted.free rfl) (E.slice (lo := 0) (hi := min m k) rfl el62.slice rfl memX rfl ⟨_, _, rfl, (by first | rfl | omega)⟩ (by omega) (by omega)) rfl ?_
 intro _ _ hK9
 try rw [List.drop_zero] at hK9
 iterate 2 (try rw [Nat.sub_zero] at hK9)
 rw [show l.take (min m k) = l.take k from by rw [← hl, List.take_eq_take_iff]; omega] at hK9
 obtain ⟨a9, rfl, rfl⟩ := hK9
 refine RL.ent (Buf.nil (T := R8) (e := 5)) ?_
 refine RL.eff (Wanted.free rfl) (E.append (T := R8) rfl rfl rfl el62 el62.noInt rfl rfl pickX (Src.sl (by decide) memX) (by first | omega | (simp; omega)) (by first | omega | (simp; omega))) rfl ?_
 intro _ _ hK10
 try rw [List.nil_append] at hK10
 try rw [Nat.zero_add] at hK10
 obtain ⟨a10, c10, rfl, rfl⟩ := hK10
 refine RL.val (Wanted.free rfl) (V.assign rfl rfl) rfl ?_
 refine RL.nil ?_
 refine SG.retE (Ret.r1 Tryd.func36 rfl (.tmp rfl)) ?_ ⟨_, _, _, rfl, rfl⟩
 exact entX

set_option maxRecDepth 100000 in
set_option maxHeartbeats 4000000 in
theorem logs_law {κ : World} {L : List Assn} {fz : Int} {a aw at_ : Option Addr} {n0 c nw cw nt ct : Nat} {l : List (List UInt8)} {ws : List Bool} {ts : List Int} (hf : inInt fz) (hm : Sl (Rep.slice R8) a n0 c l ∈ L) (hmw : Sl RB aw nw cw ws ∈ L) (ht : Sl RI at_ nt ct ts ∈ L) (hT : Tab L) :
    Ctr Tryd.prog 11 #[.slice a n0 c, .slice aw nw cw, vI fz, .slice at_ nt ct] κ L (fun v M => v = vB true ∧ M = L) := by
 refine Ctr.enter (vs := [.slice a n0 c, .slice aw nw cw, vI fz, .slice at_ nt ct]) (m := 182) Tryd.func11 rfl rfl rfl ?_
 unfold Tab at hT
 refine SG.fact (fun w hs => Sep.slInts hs ht) fun hti => ?_
 refine SG.sl (T := Rep.slice R8) (a := a) (l := l) memX fun hl hlc hc63 => ?_
 subst hl
 refine SG.sl (T := RB) (a := aw) (l := ws) memX fun hlw hlcw hc63w => ?_
 subst hlw
 refine SG.seq ?_
 refine SG.region ?_
 refine RL.val (Wanted.free rfl) (V.assign rfl rfl) rfl ?_
 refine RL.nil ?_
 refine SG.seq ?_
 refine SG.region ?_
 refine RL.eff (Wanted.free rfl) (E.call rfl go32 rfl (dNew_ok (n := 20) (by decide) (by decide))) rfl ?_
 rintro _ _ ⟨db, rfl, rfl⟩
 refine RL.val (Wanted.free rfl) (V.move rfl rfl) rfl ?_
 refine RL.val (Wanted.free rfl) (V.extract rfl rfl rfl) rfl ?_
 refine RL.val (Wanted.free rfl) (V.extract rfl rfl rfl) rfl ?_
 refine RL.val (Wanted.free rfl) (V.assign rfl rfl) rfl ?_
 refine RL.val (Wanted.free rfl) (V.assign rfl rfl) rfl ?_
 refine RL.nil ?_
 refine SG.seq ?_
 refine SG.seq ?_
 refine SG.region ?_
 refine RL.val (Wanted.free rfl) (V.move rfl rfl) rfl ?_
 refine RL.cmpF (Wanted.free rfl) (V.bin rfl rfl rfl B.neq) rfl (by simp) ?_
 refine RL.val (Wanted.free rfl) (V.move rfl rfl) rfl ?_
 refine RL.val (Wanted.yes rfl rfl rfl rfl) (V.move rfl rfl) rfl ?_
 refine RL.cmpF (Wanted.yes rfl rfl rfl rfl) (V.eqlPtrNil rfl up55 rfl rfl) rfl (by simp) ?_
 refine RL.val (Wanted.free rfl) (V.pick_false rfl rfl rfl) rfl ?_
 refine RL.nil ?_
 refine SG.cond_false rfl ?_
 refine SG.skip ?_
 refine SG.seq ?_
 have hF0 := fresh_ok (n := 20) (by decide) (by decide)
 have hv0 : checkV (fresh 20) 0 20 = 0 := checkV_zero.2 ⟨by decide, by decide, by rw [fresh_len]; decide, by rw [fresh_len]; decide, rfl⟩
 obtain ⟨hf1, hf2⟩ := fmt_calm (fresh_calm _) hv0
 have hP0 := Pst.format hF0 (by decide) (fresh_calm _) hv0 (by decide) (by decide)
 refine SG.region ?_
 refine RL.val (Wanted.free rfl) (V.move rfl rfl) rfl ?_
 refine RL.eff (Wanted.free rfl) (E.call rfl go33 rfl (format_good hF0 (by decide) (by decide) (db := db) pickX (by unfold inInt; decide) (by unfold inInt; decide) hf1)) rfl ?_
 rintro _ _ ⟨lb, rfl, rfl⟩
 refine RL.val (Wanted.free rfl) (V.move rfl rfl) rfl ?_
 refine RL.val (Wanted.free rfl) (V.extract rfl rfl rfl) rfl ?_
 refine RL.val (Wanted.free rfl) (V.extract rfl rfl rfl) rfl ?_
 refine RL.val (Wanted.free rfl) (V.assign rfl rfl) rfl ?_
 refine RL.val (Wanted.free rfl) (V.assign rfl rfl) rfl ?_
 refine RL.nil ?_
 refine SG.seq ?_
 refine SG.seq ?_
 refine SG.region ?_
 refine RL.val (Wanted.free rfl) (V.move rfl rfl) rfl ?_
 refine RL.cmpF (Wanted.free rfl) (V.bin rfl rfl rfl B.neq) rfl (by simp) ?_
 refine RL.val (Wanted.free rfl) (V.move rfl rfl) rfl ?_
 refine RL.val (Wanted.yes rfl rfl rfl rfl) (V.move rfl rfl) rfl ?_
 refine RL.cmpF (Wanted.yes rfl rfl rfl rfl) (V.eqlPtrNil rfl up58 rfl rfl) rfl (by simp) ?_
 refine RL.val (Wanted.free rfl) (V.pick_false rfl rfl rfl) rfl ?_
 refine RL.nil ?_
 refine SG.cond_false rfl ?_
 refine SG.skip ?_
 refine SG.seq ?_
 have hg1 : (lg0 0 20 1 0).recs = [] := rfl
 have hg2 : (lg0 0 20 1 0).synced = 0 := rfl
 generalize lg0 0 20 1 0 = g at hP0 hg1 hg2 ⊢
 generalize (fmtR (fresh 20) 0 20).1 = D at hP0 ⊢
 have hfz := aroundV_bd (n := fz) (most := 60) (by omega)
 obtain ⟨fu, hfu⟩ : ∃ fu, aroundV fz 60 = fu := ⟨_, rfl⟩
 refine SG.region ?_
 refine RL.val (Wanted.free rfl) (V.move rfl rfl) rfl ?_
 refine RL.val (Wanted.free rfl) (V.move rfl rfl) rfl ?_
 refine RL.eff (Wanted.free rfl) (E.call rfl go16 rfl (around_ok _ _ hf.1 hf.2 (by omega))) rfl ?_
 rintro _ _ ⟨rfl, rfl⟩
 rw [hfu] at hfz ⊢
 refine RL.eff (Wanted.free rfl) (E.call rfl go34 rfl (dFuse_ok hP0.ok (b := db) pickX fu (by omega) (by omega))) rfl ?_
 rintro _ _ ⟨rfl, rfl⟩
 refine RL.nil ?_
 refine SG.seq ?_
 refine SG.ent (Sl.nil (T := RArr8 32)) ?_
 refine SG.region ?_
 refine RL.val (Wanted.free rfl) (V.buildS [] rfl bs39 (by exact trivial) rfl) rfl ?_
 refine RL.eff (Wanted.free rfl) (E.alloc rfl ze39) rfl ?_
 rintro _ _ ⟨b13, rfl, rfl⟩
 refine RL.eff (Wanted.free rfl) (E.storeWhole rfl rfl rfl (by rfl) sz39 pickX (by first | (simp [Value.oneCell']; done) | (simp [setAt, Value.oneCell']; done)) (by rfl)) rfl ?_
 rintro _ _ rfl
 refine RL.nil ?_
 refine SG.seq ?_
 refine SG.region ?_
 refine RL.val (Wanted.free rfl) (V.loadAgg (us := _) rfl ag39 rfl pickX rfl rfl) rfl ?_
 refine RL.eff (Wanted.free rfl) (E.alloc rfl ze39) rfl ?_
 rintro _ _ ⟨b14, rfl, rfl⟩
 refine RL.eff (Wanted.free rfl) (E.storeWhole rfl rfl rfl (by rfl) sz39 pickX (by first | (simp [Value.oneCell']; done) | (simp [setAt, Value.oneCell']; done)) (by rfl)) rfl ?_
 rintro _ _ rfl
 refine RL.nil ?_
 refine SG.seq ?_
 refine SG.seq ?_
 refine SG.region ?_
 refine RL.val (Wanted.free rfl) (V.assign rfl rfl) rfl ?_
 refine RL.nil ?_
 refine SG.join (ι := Lg × Dk × List (List UInt8) × List Hs × Nat × Option Addr × Nat) (fun ⟨g, D, bs, ls, sy, xl, cl⟩ => [(3, .slice at_ nt ct), (9, ptr db 0), (14, ptr b14 0)]) (fun ⟨g, D, bs, ls, sy, xl, cl⟩ => Blk b14 39 [vI (sy : Int), .slice xl (blocksV ls).length cl] :: Sl (RArr8 32) xl (blocksV ls).length cl (blocksV ls) :: Lgm lb db g :: Dsk db D :: L) (fun ⟨g, D, bs, ls, sy, xl, cl⟩ => Pst 0 20 g D 21 1000 false ∧ g.recs = bs ∧ bs.length ≤ 12 ∧ (∀ y ∈ bs, y.length ≤ 60) ∧ g.synced = (sy : Int) ∧ sy ≤ bs.length ∧ ls = (bs.map leaf).take sy) ?_ (fun rest => ?_)
 ·
  rintro ⟨g, D, bs, ls, sy, xl, cl⟩ ⟨hP, hgr, hbl, hby, hsy, hsb, hls⟩
  try dsimp only
  refine SG.seq ?_
  refine SG.region ?_
  refine RL.val (Wanted.free rfl) (V.move rfl rfl) rfl ?_
  refine RL.eff (Wanted.free rfl) (E.call rfl go34 rfl (dFuse_ok hP.ok (b := db) pickX 0 (by omega) (by omega))) rfl ?_
  rintro _ _ ⟨rfl, rfl⟩
  refine RL.nil ?_
  refine SG.seq ?_
  refine SG.region ?_
  refine RL.val (Wanted.free rfl) (V.move rfl rfl) rfl ?_
  refine RL.val (Wanted.free rfl) (V.move rfl rfl) rfl ?_
  refine RL.eff (Wanted.free rfl) (E.call rfl go41 rfl (torn_ok (l := ts) (a := at_) memX hti (by omega) (by omega))) rfl ?_
  rintro _ _ ⟨a101, m101, c101, us, rfl, rfl⟩
  obtain ⟨rs, T2, hB, _, _, _⟩ := (hP.blow (k := 0) (by decide)).crash (by decide) us
  have hok1 := hP.ok.blow (n := 0) (by decide)
  have hok2 := hok1.restart hP.m1 us
  have hbw := back_take hB
  obtain ⟨hw1, hw2, hw3⟩ := hbw
  rw [hgr] at hw2 hw3
  rw [hsy] at hw1
  have hlen2 : ((D.blow 0).restart us).S.length = D.S.length := by rw [restart_len, blow_S]
  have hlen3 := hP.len
  have hcv : checkV ((D.blow 0).restart us) 0 20 = 0 := checkV_zero.2 ⟨by decide, by decide, by omega, by omega, rfl⟩
  have hgo := lgO_good (by decide) (by decide) (by decide) (by decide) hB.fits hB.used hB.each
  have hlz : ls = (rs.map leaf).take sy := by rw [hls]; exact last_of hw3 (by omega)
  have hrb : ∀ y ∈ rs, y.length ≤ 60 := fun y hy => by rw [hw3] at hy; exact hby y (List.mem_of_mem_take hy)
  refine RL.publish (T := RTorn) (a := a101) Pick.here ?_
  refine RL.eff (Wanted.free rfl) (E.call rfl go40 rfl (dRestart_ok hok1 (b := db) pickX (ts := us) memX hP.m1 (by have := hP.m1; omega))) rfl ?_
  rintro _ _ ⟨rfl, rfl⟩
  refine RL.nil ?_
  refine SG.seq ?_
  refine SG.region ?_
  refine RL.val (Wanted.free rfl) (V.move rfl rfl) rfl ?_
  refine RL.eff (Wanted.free rfl) (E.call rfl go42 rfl (open_ok hok2 (by omega) (db := db) pickX (by unfold inInt; decide) (by unfold inInt; decide) hcv hB.fits)) rfl ?_
  rintro _ _ ⟨b105, rfl, rfl⟩
  refine RL.val (Wanted.free rfl) (V.move rfl rfl) rfl ?_
  refine RL.val (Wanted.free rfl) (V.extract rfl rfl rfl) rfl ?_
  refine RL.val (Wanted.free rfl) (V.extract rfl rfl rfl) rfl ?_
  refine RL.val (Wanted.free rfl) (V.assign rfl rfl) rfl ?_
  refine RL.val (Wanted.free rfl) (V.assign rfl rfl) rfl ?_
  refine RL.nil ?_
  refine SG.seq ?_
  refine SG.seq ?_
  refine SG.region ?_
  refine RL.val (Wanted.free rfl) (V.move rfl rfl) rfl ?_
  refine RL.cmpF (Wanted.free rfl) (V.bin rfl rfl rfl B.neq) rfl (by simp) ?_
  refine RL.val (Wanted.free rfl) (V.move rfl rfl) rfl ?_
  refine RL.val (Wanted.yes rfl rfl rfl rfl) (V.move rfl rfl) rfl ?_
  refine RL.cmpF (Wanted.yes rfl rfl rfl rfl) (V.eqlPtrNil rfl up58 rfl rfl) rfl (by simp) ?_
  refine RL.val (Wanted.free rfl) (V.pick_false rfl rfl rfl) rfl ?_
  refine RL.nil ?_
  refine SG.cond_false rfl ?_
  refine SG.skip ?_
  refine SG.seq ?_
  refine SG.region ?_
  refine RL.val (Wanted.free rfl) (V.move rfl rfl) rfl ?_
  refine RL.eff (Wanted.free rfl) (E.call rfl go43 rfl (lRecs_ok hgo.ok (b := b105) pickX (fun r hr => by have := hB.each r hr; omega))) rfl ?_
  rintro _ _ ⟨a115, c115, rfl, rfl⟩
  rw [show (lgO ((D.blow 0).restart us) 0 20 rs).recs = rs from rfl]
  refine RL.publish (T := Rep.slice R8) (a := a115) Pick.here ?_
  refine RL.val (Wanted.free rfl) (V.assign rfl rfl) rfl ?_
  refine RL.nil ?_
  refine SG.seq ?_
  refine SG.ent (Buf.nil (T := RArr8 32) (e := 25)) ?_
  refine SG.region ?_
  refine RL.val (Wanted.free rfl) (V.assign rfl rfl) rfl ?_
  refine RL.nil ?_
  refine SG.seq ?_
  refine SG.seq ?_
  refine SG.region ?_
  refine RL.val (Wanted.free rfl) (V.assign rfl rfl) rfl ?_
  refine RL.nil ?_
  refine SG.block ?_
  refine SG.weaken (SG.loop2 (fun m8 al M => ∃ (i : Nat) (a20 : Option Addr) (c20 : Nat), i ≤ rs.length ∧ m8 = rs.length - i ∧ al = [(14, ptr b14 0), (19, .slice a115 rs.length c115), (20, .slice a20 i c20), (21, vI i)] ∧ M = Buf (RArr8 32) 25 a20 i c20 ((rs.take i).map leaf) :: Sl (Rep.slice R8) a115 rs.length c115 rs :: Blk b14 39 [vI (sy : Int), .slice xl (blocksV ls).length cl] :: Sl (RArr8 32) xl (blocksV ls).length cl (blocksV ls) :: L) (m0 := _) ⟨0, none, 0, by omega, rfl, rfl, rfl⟩ ?_) ?_ ?_
  rotate_left
  ·
   repeat (first | exact EnvLe.nil _ | refine EnvLe.cons rfl ?_)
  ·
   exact entX
  rintro _ _ _ ⟨i, a20, c20, hi, rfl, rfl, rfl⟩ ih0
  refine SG.seq ?_
  refine SG.seq ?_
  refine SG.region ?_
  refine RL.val (Wanted.free rfl) (V.move rfl rfl) rfl ?_
  refine RL.val (Wanted.free rfl) (V.move rfl rfl) rfl ?_
  refine RL.val (Wanted.free rfl) (V.len rfl rfl el36.under rfl) rfl ?_
  refine RL.cmp (Wanted.free rfl) (V.bin rfl rfl rfl B.lss) rfl (fun h56 => ?_) (fun h56 => ?_)
  ·
   refine RL.nil ?_
   refine SG.cond_true rfl ?_
   refine SG.skip ?_
   refine SG.seq ?_
   refine SG.block ?_
   obtain ⟨x, hx⟩ : ∃ x, rs[i]? = some x := ⟨_, List.getElem?_eq_getElem (by omega)⟩
   have hxl := hrb x (List.mem_of_getElem? hx)
   have hll : ((rs.take i).map leaf).length = i := by rw [List.length_map, List.length_take]; omega
   refine SG.region ?_
   refine RL.val (Wanted.free rfl) (V.move rfl rfl) rfl ?_
   refine RL.val (Wanted.free rfl) (V.move rfl rfl) rfl ?_
   refine RL.val (Wanted.free rfl) (V.move rfl rfl) rfl ?_
   refine RL.val (Wanted.free rfl) (V.indexSl (j := i) rfl el36.slice rfl rfl memX (by first | rfl | omega) (by omega)) rfl ?_
   refine RL.eff (Wanted.free rfl) (E.loadSlSl rfl on62 rfl memX hx) rfl ?_
   rintro _ _ ⟨a126, m126, c126, rfl, rfl⟩
   refine RL.eff (Wanted.free rfl) (E.call rfl go38 rfl (leaf_ok (l := x) (a := a126) memX (by unfold Tab; repeat (first | exact List.Mem.head _ | assumption | apply List.Mem.tail)) (by omega))) rfl ?_
   rintro _ _ ⟨rfl, rfl⟩
   refine RL.eff (Wanted.free rfl) (E.lit1 ((leaf x).map v8) rfl el22.slice ze25 (by simp) (by decide) (by decide) rfl rfl (by rw [List.length_map]; exact (leaf_length _))) rfl ?_
   rintro _ _ ⟨b128, rfl, rfl⟩
   refine RL.eff (Wanted.free rfl) (E.append (T := (RArr8 32)) rfl rfl rfl el22 el22.noInt rfl rfl pickX (Src.litDt (y := leaf x) pickX rfl (leaf_length _)) (by first | omega | (simp; omega)) (by first | omega | (simp; omega))) rfl ?_
   intro _ _ hK64
   try rw [List.nil_append] at hK64
   try rw [Nat.zero_add] at hK64
   rw [← map_snoc hx] at hK64
   obtain ⟨a129, c129, rfl, rfl⟩ := hK64
   refine RL.val (Wanted.free rfl) (V.assign rfl rfl) rfl ?_
   refine RL.nil ?_
   refine SG.inBlock ?_
   refine SG.region ?_
   refine RL.val (Wanted.free rfl) (V.move rfl rfl) rfl ?_
   refine RL.val (Wanted.free rfl) (V.bin rfl rfl rfl (B.addI (by omega) (by omega))) rfl ?_
   refine RL.val (Wanted.free rfl) (V.assign rfl rfl) rfl ?_
   refine RL.nil ?_
   refine SG.weaken (ih0 _ _ _ ?_ ⟨i + 1, a129, c129, by omega, rfl, rfl, rfl⟩) ?_ ?_
   ·
    omega
   ·
    repeat (first | exact EnvLe.nil _ | refine EnvLe.cons rfl ?_)
   ·
    exact entX
  ·
   refine RL.nil ?_
   refine SG.cond_false rfl ?_
   refine SG.exit rfl ?_
   refine SG.seq ?_
   obtain rfl : i = rs.length := by omega
   rw [List.take_length]
   obtain ⟨zs, hzs⟩ : ∃ zs, rs.map leaf = zs := ⟨_, rfl⟩
   have hzl : rs.length = zs.length := by rw [← hzs, List.length_map]
   have hz32 : ∀ x ∈ zs, x.length = 32 := by rw [← hzs]; exact map32
   rw [hzs] at hlz ⊢
   refine SG.publish (T := RArr8 32) (a := a20) pickX ?_
   have hzg : (rootV zs).length = 32 := root_len hz32
   have hge := growE_zero (n := zs.length) (m := sy) (by omega)
   have he := ext_growL (l := zs) (m := sy) (by omega) (by omega)
   rw [← hlz] at he
   have hlg : (rootV ls).length = 32 := root_len (fun x hx => by rw [hlz] at hx; exact hz32 x (List.mem_of_mem_take hx))
   have hll : ls.length ≤ 1000 := by rw [hlz, List.length_take]; omega
   rw [hzl]
   refine SG.region ?_
   refine RL.val (Wanted.free rfl) (V.move rfl rfl) rfl ?_
   refine RL.val (Wanted.free rfl) (V.fieldAddr rfl rfl fo39_0) rfl ?_
   refine RL.val (Wanted.free rfl) (V.load rfl on3 rfl pickX rfl) rfl ?_
   refine RL.eff (Wanted.free rfl) (E.call rfl go20 rfl (growth_ok (l := zs) (i := (sy : Int)) memX (by unfold Tab; repeat (first | exact List.Mem.head _ | assumption | apply List.Mem.tail)) (by omega) (by unfold inInt; omega))) rfl ?_
   rintro _ _ ⟨a134, c134, rfl, rfl⟩
   rw [hge]
   refine RL.val (Wanted.free rfl) (V.move rfl rfl) rfl ?_
   refine RL.val (Wanted.free rfl) (V.extract rfl rfl rfl) rfl ?_
   refine RL.val (Wanted.free rfl) (V.extract rfl rfl rfl) rfl ?_
   refine RL.val (Wanted.free rfl) (V.assign rfl rfl) rfl ?_
   refine RL.val (Wanted.free rfl) (V.assign rfl rfl) rfl ?_
   refine RL.nil ?_
   refine SG.seq ?_
   refine SG.seq ?_
   refine SG.drawL 15 15 wide rfl rfl ?_
   refine RH.val 0 rfl krX krX krX krX (Wanted.free rfl) (V.move rfl rfl) rfl ?_
   refine RH.cmpF 1 rfl krX krX krX krX (Wanted.free rfl) (V.bin rfl rfl rfl B.neq) rfl (by simp) ?_
   refine RH.val 2 rfl krX krX krX krX (Wanted.free rfl) (V.move rfl rfl) rfl ?_
   refine RH.val 3 rfl krX krX krX krX (Wanted.yes rfl rfl rfl rfl) (V.loadAgg (us := _) rfl ag39 rfl pickX rfl rfl) rfl ?_
   refine RH.val 5 rfl krX krX krX krX (Wanted.yes rfl rfl rfl rfl) (V.fieldAddr rfl rfl fo39_0) rfl ?_
   refine RH.val 6 rfl krX krX krX krX (Wanted.yes rfl rfl rfl rfl) (V.load rfl on3 rfl pickX rfl) rfl ?_
   refine RH.val 7 rfl krX krX krX krX (Wanted.yes rfl rfl rfl rfl) (V.move rfl rfl) rfl ?_
   refine RH.val 9 rfl krX krX krX krX (Wanted.yes rfl rfl rfl rfl) (V.move rfl rfl) rfl ?_
   refine RH.val 10 rfl krX krX krX krX (Wanted.yes rfl rfl rfl rfl) (V.len rfl rfl el22.under rfl) rfl ?_
   refine RH.val 11 rfl krX krX krX krX (Wanted.yes rfl rfl rfl rfl) (V.move rfl rfl) rfl ?_
   refine RH.one (i := 4) krX ?_
   refine RHone.eff rfl (Wanted.yes rfl rfl rfl rfl) (E.call rfl go23 rfl (topB_ok (s := ls) hll memX (by unfold Tab; repeat (first | exact List.Mem.head _ | assumption | apply List.Mem.tail)))) rfl ?_
   rintro _ _ ⟨rfl, rfl⟩
   refine ⟨.inr entX, ?_⟩
   refine RH.one (i := 8) krX ?_
   refine RHone.eff rfl (Wanted.yes rfl rfl rfl rfl) (E.call rfl go13 rfl (root_ok (l := zs) memX (by unfold Tab; repeat (first | exact List.Mem.head _ | assumption | apply List.Mem.tail)) (by omega))) rfl ?_
   rintro _ _ ⟨rfl, rfl⟩
   refine ⟨.inr entX, ?_⟩
   refine RH.one (i := 12) krX ?_
   refine RHone.eff rfl (Wanted.yes rfl rfl rfl rfl) (E.call rfl go30 rfl (extends_ok (p := growL zs (sy : Int)) (old := rootV ls) (q := (sy : Int)) (root := rootV zs) (n := (zs.length : Int)) memX (by unfold Tab; repeat (first | exact List.Mem.head _ | assumption | apply List.Mem.tail)) hlg hzg (by unfold inInt; omega) (by unfold inInt; omega))) rfl ?_
   rintro _ _ ⟨rfl, rfl⟩
   refine ⟨.inr entX, ?_⟩
   rw [he]
   refine RH.pure 13 rfl krX krX krX krX (Wanted.yes rfl rfl rfl rfl) (V.not rfl rfl) rfl ?_
   refine RH.pure 14 rfl krX krX krX krX (Wanted.free rfl) (V.pick_false rfl rfl rfl) rfl ?_
   refine RH.done krX ?_
   refine SG.cond_false rfl ?_
   refine SG.skip ?_
   refine SG.seq ?_
   refine SG.seq ?_
   refine SG.region ?_
   refine RL.val (Wanted.free rfl) (V.assign rfl rfl) rfl ?_
   refine RL.nil ?_
   refine SG.block ?_
   refine SG.weaken (SG.loop2 (fun m7 al M => ∃ i : Nat, i ≤ zs.length ∧ m7 = zs.length - i ∧ al = [(19, .slice a115 zs.length c115), (20, .slice a20 zs.length c20), (24, vI i)] ∧ M = Sl (RArr8 32) a20 (zs).length c20 (zs) :: Sl (Rep.slice R8) a115 zs.length c115 rs :: L) (m0 := _) ⟨0, by omega, rfl, rfl, rfl⟩ ?_) ?_ ?_
   rotate_left
   ·
    repeat (first | exact EnvLe.nil _ | refine EnvLe.cons rfl ?_)
   ·
    exact entX
   rintro _ _ _ ⟨i, hi, rfl, rfl, rfl⟩ ih1
   refine SG.seq ?_
   refine SG.seq ?_
   refine SG.region ?_
   refine RL.val (Wanted.free rfl) (V.move rfl rfl) rfl ?_
   refine RL.val (Wanted.free rfl) (V.move rfl rfl) rfl ?_
   refine RL.val (Wanted.free rfl) (V.len rfl rfl el22.under rfl) rfl ?_
   refine RL.cmp (Wanted.free rfl) (V.bin rfl rfl rfl B.lss) rfl (fun h94 => ?_) (fun h94 => ?_)
   ·
    refine RL.nil ?_
    refine SG.cond_true rfl ?_
    refine SG.skip ?_
    refine SG.seq ?_
    refine SG.block ?_
    refine SG.seq ?_
    obtain ⟨x, hx⟩ : ∃ x, rs[i]? = some x := ⟨_, List.getElem?_eq_getElem (by omega)⟩
    have hxl := hrb x (List.mem_of_getElem? hx)
    have hzx : zs[i]? = some (leaf x) := by rw [← hzs, List.getElem?_map, hx]; rfl
    obtain ⟨hg1, hg2⟩ := pathL_ok (l := zs) (i := i) (by omega)
    have hinc := incl_path (l := zs) (i := i) (x := leaf x) (by omega) hzx
    refine SG.region ?_
    refine RL.val (Wanted.free rfl) (V.move rfl rfl) rfl ?_
    refine RL.val (Wanted.free rfl) (V.move rfl rfl) rfl ?_
    refine RL.eff (Wanted.free rfl) (E.call rfl go17 rfl (path_ok (l := zs) (i := (i : Int)) memX (by unfold Tab; repeat (first | exact List.Mem.head _ | assumption | apply List.Mem.tail)) (by omega) (by unfold inInt; omega))) rfl ?_
    rintro _ _ ⟨a161, c161, rfl, rfl⟩
    rw [hg1, hg2]
    refine RL.val (Wanted.free rfl) (V.move rfl rfl) rfl ?_
    refine RL.val (Wanted.free rfl) (V.extract rfl rfl rfl) rfl ?_
    refine RL.val (Wanted.free rfl) (V.extract rfl rfl rfl) rfl ?_
    refine RL.val (Wanted.free rfl) (V.assign rfl rfl) rfl ?_
    refine RL.val (Wanted.free rfl) (V.assign rfl rfl) rfl ?_
    refine RL.nil ?_
    refine SG.seq ?_
    refine SG.drawL 17 17 wide rfl rfl ?_
    refine RH.val 0 rfl krX krX krX krX (Wanted.free rfl) (V.move rfl rfl) rfl ?_
    refine RH.cmpF 1 rfl krX krX krX krX (Wanted.free rfl) (V.bin rfl rfl rfl B.neq) rfl (by simp) ?_
    refine RH.val 2 rfl krX krX krX krX (Wanted.free rfl) (V.move rfl rfl) rfl ?_
    refine RH.val 3 rfl krX krX krX krX (Wanted.yes rfl rfl rfl rfl) (V.move rfl rfl) rfl ?_
    refine RH.val 5 rfl krX krX krX krX (Wanted.yes rfl rfl rfl rfl) (V.move rfl rfl) rfl ?_
    refine RH.val 6 rfl krX krX krX krX (Wanted.yes rfl rfl rfl rfl) (V.len rfl rfl el22.under rfl) rfl ?_
    refine RH.val 7 rfl krX krX krX krX (Wanted.yes rfl rfl rfl rfl) (V.move rfl rfl) rfl ?_
    refine RH.val 8 rfl krX krX krX krX (Wanted.yes rfl rfl rfl rfl) (V.move rfl rfl) rfl ?_
    refine RH.val 9 rfl krX krX krX krX (Wanted.yes rfl rfl rfl rfl) (V.move rfl rfl) rfl ?_
    refine RH.val 10 rfl krX krX krX krX (Wanted.yes rfl rfl rfl rfl) (V.indexSl (j := i) rfl el36.slice rfl rfl memX (by first | rfl | omega) (by omega)) rfl ?_
    refine RH.val 13 rfl krX krX krX krX (Wanted.yes rfl rfl rfl rfl) (V.move rfl rfl) rfl ?_
    refine RH.two (i := 4) (j := 11) krX ?_ ?_
    ·
     refine RHone.eff rfl (Wanted.yes rfl rfl rfl rfl) (E.call rfl go13 rfl (root_ok (l := zs) memX (by unfold Tab; repeat (first | exact List.Mem.head _ | assumption | apply List.Mem.tail)) (by omega))) rfl ?_
     rintro _ _ ⟨rfl, rfl⟩
     refine ⟨.inr entX, ?_⟩
     refine RH.one (i := 11) krX ?_
     refine RHone.eff rfl (Wanted.yes rfl rfl rfl rfl) (E.loadSlSl rfl on62 rfl memX hx) rfl ?_
     rintro _ _ ⟨a175, m175, c175, rfl, rfl⟩
     refine ⟨.inr entX, ?_⟩
     refine RH.one (i := 12) krX ?_
     refine RHone.eff rfl (Wanted.yes rfl rfl rfl rfl) (E.call rfl go38 rfl (leaf_ok (l := x) (a := a175) memX (by unfold Tab; repeat (first | exact List.Mem.head _ | assumption | apply List.Mem.tail)) (by omega))) rfl ?_
     rintro _ _ ⟨rfl, rfl⟩
     refine ⟨.inr entX, ?_⟩
     refine RH.one (i := 14) krX ?_
     refine RHone.eff rfl (Wanted.yes rfl rfl rfl rfl) (E.call rfl go27 rfl (includes_ok (p := pathV zs i) (n := (zs.length : Int)) (i := (i : Int)) memX (by unfold Tab; repeat (first | exact List.Mem.head _ | assumption | apply List.Mem.tail)) hzg (leaf_length _) (by unfold inInt; omega) (by unfold inInt; omega))) rfl ?_
     rintro _ _ ⟨rfl, rfl⟩
     refine ⟨.inr entX, ?_⟩
     rw [hinc]
     refine RH.pure 15 rfl krX krX krX krX (Wanted.yes rfl rfl rfl rfl) (V.not rfl rfl) rfl ?_
     refine RH.pure 16 rfl krX krX krX krX (Wanted.free rfl) (V.pick_false rfl rfl rfl) rfl ?_
     refine RH.done krX ?_
     refine SG.cond_false rfl ?_
     refine SG.skip ?_
     refine SG.inBlock ?_
     refine SG.region ?_
     refine RL.val (Wanted.free rfl) (V.move rfl rfl) rfl ?_
     refine RL.val (Wanted.free rfl) (V.bin rfl rfl rfl (B.addI (by omega) (by omega))) rfl ?_
     refine RL.val (Wanted.free rfl) (V.assign rfl rfl) rfl ?_
     refine RL.nil ?_
     refine SG.weaken (ih1 _ _ _ ?_ ⟨i + 1, by omega, rfl, rfl, rfl⟩) ?_ ?_
     ·
      omega
     ·
      repeat (first | exact EnvLe.nil _ | refine EnvLe.cons rfl ?_)
     ·
      exact entX
    ·
     refine RHone.eff rfl (Wanted.yes rfl rfl rfl rfl) (E.loadSlSl rfl on62 rfl memX hx) rfl ?_
     rintro _ _ ⟨a175, m175, c175, rfl, rfl⟩
     refine ⟨.inr entX, ?_⟩
     refine RH.one (i := 4) krX ?_
     refine RHone.eff rfl (Wanted.yes rfl rfl rfl rfl) (E.call rfl go13 rfl (root_ok (l := zs) memX (by unfold Tab; repeat (first | exact List.Mem.head _ | assumption | apply List.Mem.tail)) (by omega))) rfl ?_
     rintro _ _ ⟨rfl, rfl⟩
     refine ⟨.inr entX, ?_⟩
     refine RH.one (i := 12) krX ?_
     refine RHone.eff rfl (Wanted.yes rfl rfl rfl rfl) (E.call rfl go38 rfl (leaf_ok (l := x) (a := a175) memX (by unfold Tab; repeat (first | exact List.Mem.head _ | assumption | apply List.Mem.tail)) (by omega))) rfl ?_
     rintro _ _ ⟨rfl, rfl⟩
     refine ⟨.inr entX, ?_⟩
     refine RH.one (i := 14) krX ?_
     refine RHone.eff rfl (Wanted.yes rfl rfl rfl rfl) (E.call rfl go27 rfl (includes_ok (p := pathV zs i) (n := (zs.length : Int)) (i := (i : Int)) memX (by unfold Tab; repeat (first | exact List.Mem.head _ | assumption | apply List.Mem.tail)) hzg (leaf_length _) (by unfold inInt; omega) (by unfold inInt; omega))) rfl ?_
     rintro _ _ ⟨rfl, rfl⟩
     refine ⟨.inr entX, ?_⟩
     rw [hinc]
     refine RH.pure 15 rfl krX krX krX krX (Wanted.yes rfl rfl rfl rfl) (V.not rfl rfl) rfl ?_
     refine RH.pure 16 rfl krX krX krX krX (Wanted.free rfl) (V.pick_false rfl rfl rfl) rfl ?_
     refine RH.done krX ?_
     refine SG.cond_false rfl ?_
     refine SG.skip ?_
     refine SG.inBlock ?_
     refine SG.region ?_
     refine RL.val (Wanted.free rfl) (V.move rfl rfl) rfl ?_
     refine RL.val (Wanted.free rfl) (V.bin rfl rfl rfl (B.addI (by omega) (by omega))) rfl ?_
     refine RL.val (Wanted.free rfl) (V.assign rfl rfl) rfl ?_
     refine RL.nil ?_
     refine SG.weaken (ih1 _ _ _ ?_ ⟨i + 1, by omega, rfl, rfl, rfl⟩) ?_ ?_
     ·
      omega
     ·
      repeat (first | exact EnvLe.nil _ | refine EnvLe.cons rfl ?_)
     ·
      exact entX
   ·
    refine RL.nil ?_
    refine SG.cond_false rfl ?_
    refine SG.exit rfl ?_
    refine SG.seq ?_
    refine SG.region ?_
    refine RL.eff (Wanted.free rfl) (E.call rfl go15 rfl (lives_ok (by unfold Tab; repeat (first | exact List.Mem.head _ | assumption | apply List.Mem.tail)))) rfl ?_
    rintro _ _ ⟨rfl, rfl⟩
    refine RL.val (Wanted.free rfl) (V.assign rfl rfl) rfl ?_
    refine RL.nil ?_
    refine SG.retE (Ret.r1 Tryd.func11 rfl (.tmp rfl)) ?_ ⟨rfl, rfl⟩
    exact entX
 ·
  refine SG.block ?_
  refine SG.weaken (SG.loop2 (fun m9 al M => ∃ (i : Nat) (g : Lg) (D : Dk) (bs : List (List UInt8)) (ls : List Hs) (sy : Nat) (ax : Option Addr) (cx : Nat) (xl : Option Addr) (cl : Nat), i ≤ 12 ∧ m9 = 12 - i ∧ Pst 0 20 g D (1 + i) (100 + 40 * i) false ∧ g.recs = bs ∧ bs.length ≤ i ∧ (∀ y ∈ bs, y.length ≤ 60) ∧ g.synced = (sy : Int) ∧ sy ≤ bs.length ∧ ls = (bs.map leaf).take sy ∧ al = [(0, .slice a l.length c), (1, .slice aw ws.length cw), (3, .slice at_ nt ct), (9, ptr db 0), (11, ptr lb 0), (13, ptr b13 0), (14, ptr b14 0), (15, vI i)] ∧ M = Blk b14 39 [vI (sy : Int), .slice xl (blocksV ls).length cl] :: Sl (RArr8 32) xl (blocksV ls).length cl (blocksV ls) :: Blk b13 39 [vI (bs.length : Int), .slice ax (blocksV (bs.map leaf)).length cx] :: Sl (RArr8 32) ax (blocksV (bs.map leaf)).length cx (blocksV (bs.map leaf)) :: Lgm lb db g :: Dsk db D :: L) (m0 := _) ⟨0, g, D.blow fu, [], [], 0, none, 0, none, 0, by omega, rfl, (hP0.blow (by omega)).mono (by omega) (by decide), hg1, Nat.le_refl _, (fun _ h => by cases h), hg2, Nat.le_refl _, rfl, rfl, rfl⟩ ?_) ?_ ?_
  rotate_left
  ·
   repeat (first | exact EnvLe.nil _ | refine EnvLe.cons rfl ?_)
  ·
   rw [List.map_nil, blocks_nil]
   exact entX
  rintro _ _ _ ⟨i, g, D, bs, ls, sy, ax, cx, xl, cl, hi, rfl, hP, hgr, hbl, hby, hsy, hsb, hls, rfl, rfl⟩ ih2
  refine SG.seq ?_
  refine SG.seq ?_
  refine SG.region ?_
  refine RL.val (Wanted.free rfl) (V.move rfl rfl) rfl ?_
  refine RL.val (Wanted.free rfl) (V.move rfl rfl) rfl ?_
  refine RL.val (Wanted.free rfl) (V.len rfl rfl el36.under rfl) rfl ?_
  refine RL.cmp (Wanted.free rfl) (V.bin rfl rfl rfl B.lss) rfl (fun h132 => ?_) (fun h132 => ?_)
  ·
   refine RL.val (Wanted.free rfl) (V.move rfl rfl) rfl ?_
   refine RL.val (Wanted.yes rfl rfl rfl rfl) (V.move rfl rfl) rfl ?_
   refine RL.cmp (Wanted.yes rfl rfl rfl rfl) (V.bin rfl rfl rfl B.lss) rfl (fun h135 => ?_) (fun h135 => ?_)
   ·
    refine RL.val (Wanted.free rfl) (V.pick_true rfl rfl rfl) rfl ?_
    refine RL.val (Wanted.free rfl) (V.move rfl rfl) rfl ?_
    refine RL.val (Wanted.yes rfl rfl rfl rfl) (V.move rfl rfl) rfl ?_
    refine RL.eff (Wanted.yes rfl rfl rfl rfl) (E.call rfl go35 rfl (dOn_ok hP.ok (b := db) pickX)) rfl ?_
    rintro _ _ ⟨rfl, rfl⟩
    refine RL.val (Wanted.free rfl) (V.pick_true rfl rfl rfl) rfl ?_
    refine RL.nil ?_
    refine SG.cond rfl (fun h139 => ?_) (fun h139 => ?_)
    ·
     have hon : D.off = false := by simpa using h139
     refine SG.skip ?_
     refine SG.seq ?_
     refine SG.block ?_
     refine SG.seq ?_
     obtain ⟨x0, hx0⟩ : ∃ x, l[i]? = some x := ⟨_, List.getElem?_eq_getElem (by omega)⟩
     have hgk := hP.good.ok
     refine SG.region ?_
     refine RL.val (Wanted.free rfl) (V.move rfl rfl) rfl ?_
     refine RL.val (Wanted.free rfl) (V.move rfl rfl) rfl ?_
     refine RL.val (Wanted.free rfl) (V.indexSl (j := i) rfl el36.slice rfl rfl memX (by first | rfl | omega) (by omega)) rfl ?_
     refine RL.eff (Wanted.free rfl) (E.loadSlSl rfl on62 rfl memX hx0) rfl ?_
     rintro _ _ ⟨a71, m71, c71, rfl, rfl⟩
     refine RL.eff (Wanted.free rfl) (E.call rfl go36 rfl (few_ok (l := x0) (k := 60) (a := a71) memX (by decide))) rfl ?_
     rintro _ _ ⟨a72, k72, c72, rfl, rfl⟩
     have hxl : (x0.take 60).length ≤ 60 := by rw [List.length_take]; omega
     generalize x0.take 60 = x at hxl ⊢
     refine RL.publish (T := R8) (a := a72) Pick.here ?_
     refine RL.val (Wanted.free rfl) (V.assign rfl rfl) rfl ?_
     refine RL.nil ?_
     refine SG.seq ?_
     refine SG.seq ?_
     have hub := used_le60 hby
     have hgu := hP.good.used
     rw [hgr] at hgu
     have hae := appE_ok (g := g) (D := D) (rec := x) (by omega) (room_ok hP.en hgu (by omega) hxl) hon
     refine SG.region ?_
     refine RL.val (Wanted.free rfl) (V.move rfl rfl) rfl ?_
     refine RL.val (Wanted.free rfl) (V.move rfl rfl) rfl ?_
     refine RL.eff (Wanted.free rfl) (E.call rfl go37 rfl (lAppend_ok hgk (b := lb) pickX hP.ok pickX (rec := x) memX)) rfl ?_
     rintro _ _ ⟨rfl, rfl⟩
     rw [hae]
     obtain ⟨ha1, hrc, ha3⟩ := hP.app hon hae
     obtain ⟨g1, hg1⟩ : ∃ g1, appL g D x = g1 := ⟨_, rfl⟩
     rw [hg1] at ha1 hrc ha3 ⊢
     rw [hgr] at hrc
     have hby1 : ∀ y ∈ bs ++ [x], y.length ≤ 60 := fun y hy => by
        rcases List.mem_append.1 hy with hy | hy
        ·
         exact hby y hy
        ·
         rw [List.mem_singleton] at hy; rw [hy]; exact hxl
     have hbl1 : (bs ++ [x]).length = bs.length + 1 := by rw [List.length_append, List.length_singleton]
     obtain ⟨hy1, _, _, _, hyrc, hyr⟩ := ha1.sync hon (by omega)
     have hls1 : ls = ((bs ++ [x]).map leaf).take sy := by rw [last_keep hsb]; exact hls
     refine RL.cmpF (Wanted.free rfl) (V.bin rfl rfl rfl B.neq) rfl (by simp) ?_
     refine RL.nil ?_
     refine SG.cond_false rfl ?_
     refine SG.skip ?_
     refine SG.seq ?_
     refine SG.drawL 5 4 wide rfl rfl ?_
     refine RH.val 0 rfl krX krX krX krX (Wanted.free rfl) (V.loadAgg (us := _) rfl ag39 rfl pickX rfl rfl) rfl ?_
     refine RH.val 1 rfl krX krX krX krX (Wanted.free rfl) (V.move rfl rfl) rfl ?_
     refine RH.one (i := 2) krX ?_
     refine RHone.eff rfl (Wanted.free rfl) (E.call rfl go38 rfl (leaf_ok (l := x) (a := a72) memX (by unfold Tab; repeat (first | exact List.Mem.head _ | assumption | apply List.Mem.tail)) (by omega))) rfl ?_
     rintro _ _ ⟨rfl, rfl⟩
     refine ⟨.inr entX, ?_⟩
     refine RH.one (i := 3) krX ?_
     refine RHone.eff rfl (Wanted.free rfl) (E.call rfl go24 rfl (appC_ok (bs := bs) (y := x) (by omega) memX (by unfold Tab; repeat (first | exact List.Mem.head _ | assumption | apply List.Mem.tail)))) rfl ?_
     rintro _ _ ⟨a80, c80, rfl, rfl⟩
     refine ⟨.inr entX, ?_⟩
     refine RH.one (i := 4) krX ?_
     refine RHone.eff rfl (Wanted.free rfl) (E.storeWhole rfl rfl rfl (by rfl) sz39 pickX (by first | (simp [Value.oneCell']; done) | (simp [setAt, Value.oneCell']; done)) (by rfl)) rfl ?_
     rintro _ _ rfl
     refine ⟨.inl krX, ?_⟩
     refine RH.done krX ?_
     refine SG.seq ?_
     refine SG.region ?_
     refine RL.val (Wanted.free rfl) (V.move rfl rfl) rfl ?_
     refine RL.val (Wanted.free rfl) (V.move rfl rfl) rfl ?_
     refine RL.val (Wanted.free rfl) (V.len rfl rfl el54.under rfl) rfl ?_
     refine RL.cmp (Wanted.free rfl) (V.bin rfl rfl rfl B.lss) rfl (fun h157 => ?_) (fun h157 => ?_)
     ·
      obtain ⟨wv, hw⟩ : ∃ w, ws[i]? = some w := ⟨_, List.getElem?_eq_getElem (by omega)⟩
      refine RL.val (Wanted.free rfl) (V.move rfl rfl) rfl ?_
      refine RL.val (Wanted.yes rfl rfl rfl rfl) (V.move rfl rfl) rfl ?_
      refine RL.val (Wanted.yes rfl rfl rfl rfl) (V.move rfl rfl) rfl ?_
      refine RL.val (Wanted.yes rfl rfl rfl rfl) (V.indexSl (j := i) rfl el54.slice rfl rfl memX (by first | rfl | omega) (by omega)) rfl ?_
      refine RL.val (Wanted.yes rfl rfl rfl rfl) (V.loadSc rfl on4 rfl memX hw) rfl ?_
      refine RL.val (Wanted.free rfl) (V.pick_true rfl rfl rfl) rfl ?_
      refine RL.val (Wanted.free rfl) (V.move rfl rfl) rfl ?_
      refine RL.split 91 rfl (fun g164 => ?_) (fun g164 => ?_)
      ·
       refine RL.val (Wanted.yes rfl rfl rfl rfl) (V.move rfl rfl) rfl ?_
       refine RL.eff (Wanted.yes rfl rfl rfl rfl) (E.call rfl go39 rfl (lSync_ok ha1.good.ok (b := lb) pickX ha1.ok ha1.m1 (by omega) pickX)) rfl ?_
       rintro _ _ ⟨rfl, rfl⟩
       refine RL.cmp (Wanted.yes rfl rfl rfl rfl) (V.bin rfl rfl rfl B.eql) rfl (fun h167 => ?_) (fun h167 => ?_)
       ·
        have hsy2 : (syncR g1 D).1.synced = ((bs.length + 1 : Nat) : Int) := by
           rcases hyr with h | h
           ·
            rw [h.2, hrc, hbl1]
           ·
            rw [h167] at h; cases h.1
        refine RL.val (Wanted.free rfl) (V.pick_true rfl rfl rfl) rfl ?_
        refine RL.nil ?_
        refine SG.cond_true rfl ?_
        refine SG.region ?_
        refine RL.val (Wanted.free rfl) (V.loadAgg (us := _) rfl ag39 rfl pickX rfl rfl) rfl ?_
        refine RL.eff (Wanted.free rfl) (E.storeWhole rfl rfl rfl (by rfl) sz39 pickX (by first | (simp [Value.oneCell']; done) | (simp [setAt, Value.oneCell']; done)) (by rfl)) rfl ?_
        rintro _ _ rfl
        refine RL.nil ?_
        refine SG.inBlock ?_
        refine SG.region ?_
        refine RL.val (Wanted.free rfl) (V.move rfl rfl) rfl ?_
        refine RL.val (Wanted.free rfl) (V.bin rfl rfl rfl (B.addI (by omega) (by omega))) rfl ?_
        refine RL.val (Wanted.free rfl) (V.assign rfl rfl) rfl ?_
        refine RL.nil ?_
        refine SG.weaken (ih2 _ _ _ ?_ ⟨i + 1, (syncR g1 D).1, (syncR g1 D).2.1, bs ++ [x], (bs ++ [x]).map leaf, (bs.length + 1), a80, c80, a80, c80, by omega, rfl, hy1.mono (by omega) (by omega), by rw [hyrc, hrc], by omega, hby1, hsy2, by omega, (List.take_of_length_le (by rw [List.length_map]; omega)).symm, rfl, rfl⟩) ?_ ?_
        ·
         omega
        ·
         repeat (first | exact EnvLe.nil _ | refine EnvLe.cons rfl ?_)
        ·
         rw [show ((bs ++ [x]).length : Int) = (bs.length : Int) + 1 from by omega]
         rw [show ((bs.length + 1 : Nat) : Int) = (bs.length : Int) + 1 from by omega]
         exact entX
       ·
        have hsy2 : (syncR g1 D).1.synced = g.synced := by
           rcases hyr with h | h
           ·
            exact absurd h.1 h167
           ·
            rw [h.2.2, ha3]
        refine RL.val (Wanted.free rfl) (V.pick_true rfl rfl rfl) rfl ?_
        refine RL.nil ?_
        refine SG.cond_false rfl ?_
        refine SG.skip ?_
        refine SG.inBlock ?_
        refine SG.region ?_
        refine RL.val (Wanted.free rfl) (V.move rfl rfl) rfl ?_
        refine RL.val (Wanted.free rfl) (V.bin rfl rfl rfl (B.addI (by omega) (by omega))) rfl ?_
        refine RL.val (Wanted.free rfl) (V.assign rfl rfl) rfl ?_
        refine RL.nil ?_
        refine SG.weaken (ih2 _ _ _ ?_ ⟨i + 1, (syncR g1 D).1, (syncR g1 D).2.1, bs ++ [x], ls, sy, a80, c80, xl, cl, by omega, rfl, hy1.mono (by omega) (by omega), by rw [hyrc, hrc], by omega, hby1, by rw [hsy2, hsy], by omega, hls1, rfl, rfl⟩) ?_ ?_
        ·
         omega
        ·
         repeat (first | exact EnvLe.nil _ | refine EnvLe.cons rfl ?_)
        ·
         rw [show ((bs ++ [x]).length : Int) = (bs.length : Int) + 1 from by omega]
         exact entX
      ·
       refine RL.skip (Wanted.no rfl rfl rfl rfl rfl) rfl ?_
       refine RL.skip (Wanted.no rfl rfl rfl rfl rfl) rfl ?_
       refine RL.skip (Wanted.no rfl rfl rfl rfl rfl) rfl ?_
       refine RL.val (Wanted.free rfl) (V.pick_false rfl rfl rfl) rfl ?_
       refine RL.nil ?_
       refine SG.cond_false rfl ?_
       refine SG.skip ?_
       refine SG.inBlock ?_
       refine SG.region ?_
       refine RL.val (Wanted.free rfl) (V.move rfl rfl) rfl ?_
       refine RL.val (Wanted.free rfl) (V.bin rfl rfl rfl (B.addI (by omega) (by omega))) rfl ?_
       refine RL.val (Wanted.free rfl) (V.assign rfl rfl) rfl ?_
       refine RL.nil ?_
       refine SG.weaken (ih2 _ _ _ ?_ ⟨i + 1, g1, D, bs ++ [x], ls, sy, a80, c80, xl, cl, by omega, rfl, ha1.mono (by omega) (by omega), hrc, by omega, hby1, by rw [ha3, hsy], by omega, hls1, rfl, rfl⟩) ?_ ?_
       ·
        omega
       ·
        repeat (first | exact EnvLe.nil _ | refine EnvLe.cons rfl ?_)
       ·
        rw [show ((bs ++ [x]).length : Int) = (bs.length : Int) + 1 from by omega]
        exact entX
     ·
      refine RL.val (Wanted.free rfl) (V.move rfl rfl) rfl ?_
      refine RL.skip (Wanted.no rfl rfl rfl rfl rfl) rfl ?_
      refine RL.skip (Wanted.no rfl rfl rfl rfl rfl) rfl ?_
      refine RL.skip (Wanted.no rfl rfl rfl rfl rfl) rfl ?_
      refine RL.skip (Wanted.no rfl rfl rfl rfl rfl) rfl ?_
      refine RL.val (Wanted.free rfl) (V.pick_false rfl rfl rfl) rfl ?_
      refine RL.val (Wanted.free rfl) (V.move rfl rfl) rfl ?_
      refine RL.skip (Wanted.no rfl rfl rfl rfl rfl) rfl ?_
      refine RL.skip (Wanted.no rfl rfl rfl rfl rfl) rfl ?_
      refine RL.skip (Wanted.no rfl rfl rfl rfl rfl) rfl ?_
      refine RL.val (Wanted.free rfl) (V.pick_false rfl rfl rfl) rfl ?_
      refine RL.nil ?_
      refine SG.cond_false rfl ?_
      refine SG.skip ?_
      refine SG.inBlock ?_
      refine SG.region ?_
      refine RL.val (Wanted.free rfl) (V.move rfl rfl) rfl ?_
      refine RL.val (Wanted.free rfl) (V.bin rfl rfl rfl (B.addI (by omega) (by omega))) rfl ?_
      refine RL.val (Wanted.free rfl) (V.assign rfl rfl) rfl ?_
      refine RL.nil ?_
      refine SG.weaken (ih2 _ _ _ ?_ ⟨i + 1, g1, D, bs ++ [x], ls, sy, a80, c80, xl, cl, by omega, rfl, ha1.mono (by omega) (by omega), hrc, by omega, hby1, by rw [ha3, hsy], by omega, hls1, rfl, rfl⟩) ?_ ?_
      ·
       omega
      ·
       repeat (first | exact EnvLe.nil _ | refine EnvLe.cons rfl ?_)
      ·
       rw [show ((bs ++ [x]).length : Int) = (bs.length : Int) + 1 from by omega]
       exact entX
    ·
     refine SG.exit rfl ?_
     refine SG.weaken (rest ⟨g, D, bs, ls, sy, xl, cl⟩ ⟨hP.mono (by omega) (by omega), hgr, by omega, hby, hsy, hsb, hls⟩) ?_ ?_
     ·
      repeat (first | exact EnvLe.nil _ | refine EnvLe.cons rfl ?_)
     ·
      exact entX
   ·
    refine RL.val (Wanted.free rfl) (V.pick_true rfl rfl rfl) rfl ?_
    refine RL.val (Wanted.free rfl) (V.move rfl rfl) rfl ?_
    refine RL.skip (Wanted.no rfl rfl rfl rfl rfl) rfl ?_
    refine RL.skip (Wanted.no rfl rfl rfl rfl rfl) rfl ?_
    refine RL.val (Wanted.free rfl) (V.pick_false rfl rfl rfl) rfl ?_
    refine RL.nil ?_
    refine SG.cond_false rfl ?_
    refine SG.exit rfl ?_
    refine SG.weaken (rest ⟨g, D, bs, ls, sy, xl, cl⟩ ⟨hP.mono (by omega) (by omega), hgr, by omega, hby, hsy, hsb, hls⟩) ?_ ?_
    ·
     repeat (first | exact EnvLe.nil _ | refine EnvLe.cons rfl ?_)
    ·
     exact entX
  ·
   refine RL.val (Wanted.free rfl) (V.move rfl rfl) rfl ?_
   refine RL.skip (Wanted.no rfl rfl rfl rfl rfl) rfl ?_
   refine RL.skip (Wanted.no rfl rfl rfl rfl rfl) rfl ?_
   refine RL.val (Wanted.free rfl) (V.pick_false rfl rfl rfl) rfl ?_
   refine RL.val (Wanted.free rfl) (V.move rfl rfl) rfl ?_
   refine RL.skip (Wanted.no rfl rfl rfl rfl rfl) rfl ?_
   refine RL.skip (Wanted.no rfl rfl rfl rfl rfl) rfl ?_
   refine RL.val (Wanted.free rfl) (V.pick_false rfl rfl rfl) rfl ?_
   refine RL.nil ?_
   refine SG.cond_false rfl ?_
   refine SG.exit rfl ?_
   refine SG.weaken (rest ⟨g, D, bs, ls, sy, xl, cl⟩ ⟨hP.mono (by omega) (by omega), hgr, by omega, hby, hsy, hsb, hls⟩) ?_ ?_
   ·
    repeat (first | exact EnvLe.nil _ | refine EnvLe.cons rfl ?_)
   ·
    exact entX

end Go.Proofs.YtcbloadpffjkiaaDoor
