/- The walk of ReplicaWire. -/
import Derived.Test.YtilcnglcflohoaaRefa
import Derived.Test.YtilcnglcflohoaaLastp
import Derived.Test.YtilcnglcflohoaaReaderb
import Derived.Test.YtilcnglcflohoaaPlain3
import Derived.Test.YtilcnglcflohoaaRaft7
namespace Go.Proofs.Ytilcnglcflohoaa
open Go.Wk Go.Rp Go.Wire

structure Tame (m : Msg) : Prop where
  a : inInt m.kind
  b : inInt m.frm
  c : inInt m.to
  d : inInt m.term
  e : inInt m.index
  f : inInt m.prev
  g : inInt m.commit
  n : m.slots.length ≤ 50
  s : ∀ x ∈ m.slots, inInt x.term ∧ x.data.length ≤ 4000
theorem tame_of {N : Nat} {G : Gh} {s : Nat} {c : Clu} (h : Rp.Reach N G s c) (hq : Quiet c) (hN : N ≤ 5) (hs : s ≤ 50) {m : Msg} (hm : m ∈ c.sent) : Tame m := by
  have a := h.1.msg m hm
  obtain ⟨b1, b2, b3, b4, b5⟩ := h.2.msg m hm
  obtain ⟨i0, i1, i2⟩ := a.nat
  have k := a.kind
  obtain ⟨f0, f1⟩ := a.frm
  obtain ⟨t0, t1⟩ := a.to
  have tm := a.term
  have hn : (0 : Int) ≤ (m.slots.length : Int) := by omega
  refine ⟨by unfold inInt; omega, by unfold inInt; omega, by unfold inInt; omega, by unfold inInt; omega, by unfold inInt; omega, by unfold inInt; omega, by unfold inInt; omega, by omega, fun x hx => ⟨?_, b5 x hx⟩⟩
  by_cases h3 : m.kind = 3
  · obtain ⟨e1, _, _, e4, _⟩ := a.app h3
    rw [← e4] at hx
    obtain ⟨j, hj⟩ := List.getElem?_of_mem (List.mem_of_mem_drop (List.mem_of_mem_take hx))
    obtain ⟨w1, w2, _⟩ := h.1.g.wfl e1 j x hj
    unfold inInt; omega
  · rw [hq m hm h3] at hx; cases hx
theorem quiet_at (N : Nat) (A : List Act) : ∀ i, Quiet (stateAt N A i)
  | 0 => fun m hm => by cases hm
  | i + 1 => by
    have h := quiet_at N A i
    show Quiet (actC _ _ _)
    unfold actC
    split
    · exact h.camp _
    split
    · exact h.prop _ _
    split
    · exact h.beat _
    split
    · exact h.rest _
    split
    · exact h
    · exact h.arr _
theorem runV_end (n : Int) (l : List Int) (hl : l.length ≤ 40) : ∃ N G s c, 1 ≤ N ∧ N ≤ 5 ∧ s ≤ 40 ∧ Rp.Reach N G s c ∧ Quiet c ∧ (runV n l).length ≤ 61 ∧ 0 < (runV n l).length ∧ (runV n l)[(runV n l).length - 1]? = some c := by
  obtain ⟨_, _, _, _, h1, h5⟩ := sizeN_ok n
  have hA : (actsOf (sizeN n) l).length ≤ 40 := by rw [actsOf, List.length_map, List.length_take]; omega
  unfold runV
  generalize actsOf (sizeN n) l = A at hA ⊢
  generalize sizeN n = N at h1 h5 ⊢
  obtain ⟨G, hr⟩ := reach_at h1 h5 A A.length
  refine ⟨N, G, A.length, stateAt N A A.length, h1, h5, hA, hr, quiet_at N A _, by rw [hist_len]; omega, by rw [hist_len]; omega, ?_⟩
  rw [hist_len, Nat.add_sub_cancel]
  unfold hist
  rw [List.getElem?_map, List.getElem?_range (by omega)]; rfl
def msgI (m : Msg) : List Int := [m.kind, m.frm, m.to, m.term, m.index, m.prev, m.commit]
def encS (l : List Slot) : List UInt8 := l.flatMap fun s => enc (zig s.term) ++ encText s.data
def encM (m : Msg) : List UInt8 := encInts (msgI m) ++ encBool m.yes
theorem msgI_in {m : Msg} (h : Tame m) : ∀ x ∈ msgI m, inInt x := fun x hx => by
  simp only [msgI, List.mem_cons, List.not_mem_nil, or_false] at hx
  obtain ⟨a, b, c, d, e, f, g, _, _⟩ := h
  rcases hx with rfl | rfl | rfl | rfl | rfl | rfl | rfl <;> assumption
theorem take_snocS {l : List Slot} {i : Nat} {y : Slot} (h : l[i]? = some y) : l.take i ++ [y] = l.take (i + 1) := by
  rw [List.take_add_one, h]; rfl
theorem encS_snoc {l : List Slot} {i : Nat} {y : Slot} (h : l[i]? = some y) : encS (l.take (i + 1)) = encS (l.take i) ++ enc (zig y.term) ++ encText y.data := by
  rw [← take_snocS h]; simp [encS]
theorem encS_cons {l : List Slot} {i : Nat} {y : Slot} (h : l[i]? = some y) : encS (l.drop i) = enc (zig y.term) ++ (encText y.data ++ encS (l.drop (i + 1))) := by
  obtain ⟨hl, e⟩ := List.getElem?_eq_some_iff.1 h
  unfold encS; rw [List.drop_eq_getElem_cons hl, List.flatMap_cons, e, List.append_assoc]
theorem encS_le {l : List Slot} (hd : ∀ x ∈ l, x.data.length ≤ 4000) : ∀ k, (encS (l.take k)).length ≤ 4020 * k
  | 0 => by simp [encS]
  | k + 1 => by
    have ih := encS_le hd k
    by_cases h : k < l.length
    · have hy := List.getElem?_eq_getElem h
      have h1 := hd _ (List.getElem_mem h)
      have h2 := (enc_length (UInt64.ofNat (l[k]).data.length)).1
      have h3 := (enc_length (zig (l[k]).term)).1
      rw [encS_snoc hy]
      simp only [encText, List.length_append]
      omega
    · rw [List.take_of_length_le (by omega)] at ih ⊢
      omega
theorem encM_len (m : Msg) : (encM m).length ≤ 100 := by
  have h1 := encList_length (msgI m)
  have h2 := (enc_length (UInt64.ofNat (msgI m).length)).1
  have h3 : (msgI m).length = 7 := rfl
  simp only [encM, encInts, encBool, List.length_append, List.length_singleton]; omega
theorem encM_read {m : Msg} (h : Tame m) (r : List UInt8) : rdIs (encM m ++ r) 0 7 = (encBool m.yes ++ r, 0, msgI m) := by
  unfold encM; rw [List.append_assoc]
  exact rdIs_enc (show (7 : Int) ≤ 7 by decide) (by decide) (fun x hx => msgI_in h x hx) _

set_option maxRecDepth 100000 in
set_option maxHeartbeats 2000000 in
theorem wire_law {κ : World} {L : List Assn} {n : Int} (hn : inInt n) {a : Option Addr} {k cc : Nat} {l : List Int} (hm : Sl RI a k cc l ∈ L) {kk : Int} (hkk : inInt kk) :
    Ctr Try.prog 11 #[vI n, .slice a k cc, vI kk] κ L (fun v M => v = vB true ∧ M = L) := by
 refine Ctr.enter (vs := [vI n, .slice a k cc, vI kk]) (m := 217) Try.func11 rfl rfl rfl ?_
 refine SG.sl hm fun hkl hkc _ => ?_
 refine SG.seq ?_
 refine SG.region ?_
 refine RL.val (Wanted.free rfl) (V.assign rfl rfl) rfl ?_
 refine RL.nil ?_
 refine SG.seq ?_
 refine SG.region ?_
 refine RL.val (Wanted.free rfl) (V.move rfl rfl) rfl ?_
 refine RL.val (Wanted.free rfl) (V.move rfl rfl) rfl ?_
 refine RL.val (Wanted.free rfl) (V.move rfl rfl) rfl ?_
 refine RL.val (Wanted.free rfl) (V.len rfl rfl el22.under rfl) rfl ?_
 refine RL.val (Wanted.free rfl) (V.min rfl rfl rfl rfl) rfl ?_
 rw [show (if (30 : Int) < (k : Int) then (30 : Int) else (k : Int)) = ((min k 30 : Nat) : Int) from by split <;> omega]
 refine RL.eff (Wanted.free rfl) (E.slice (hi := min k 30) rfl el22.slice rfl memX rfl ⟨_, _, rfl, (by first | rfl | omega)⟩ (by omega) (by omega)) rfl ?_
 intro _ _ hK7
 try rw [List.drop_zero] at hK7
 iterate 2 (try rw [Nat.sub_zero] at hK7)
 obtain ⟨a29, rfl, rfl⟩ := hK7
 refine RL.eff (Wanted.free rfl) (E.call rfl go15 rfl (run_ok hn memX)) rfl ?_
 rintro _ _ ⟨a7, c7, rfl, rfl⟩
 obtain ⟨N, G, s, c, h1, h5, hs40, hr, hquiet, hHl, hH0, hHc⟩ := runV_end n (l.take (min k 30)) (by rw [List.length_take]; omega)
 generalize runV n (l.take (min k 30)) = H at hHl hH0 hHc ⊢
 have hlen := hr.1.len
 have hok := Rch.ok hr h1 h5 (by omega)
 have hoks := hok.s
 refine RL.val (Wanted.free rfl) (V.move rfl rfl) rfl ?_
 refine RL.val (Wanted.free rfl) (V.extract rfl rfl rfl) rfl ?_
 refine RL.val (Wanted.free rfl) (V.extract rfl rfl rfl) rfl ?_
 refine RL.val (Wanted.free rfl) (V.assign rfl rfl) rfl ?_
 refine RL.val (Wanted.free rfl) (V.assign rfl rfl) rfl ?_
 refine RL.nil ?_
 refine SG.seq ?_
 refine SG.seq ?_
 refine SG.region ?_
 refine RL.val (Wanted.free rfl) (V.move rfl rfl) rfl ?_
 refine RL.val (Wanted.free rfl) (V.not rfl rfl) rfl ?_
 refine RL.nil ?_
 refine SG.cond_false rfl ?_
 refine SG.skip ?_
 refine SG.seq ?_
 refine SG.region ?_
 refine RL.val (Wanted.free rfl) (V.move rfl rfl) rfl ?_
 refine RL.val (Wanted.free rfl) (V.move rfl rfl) rfl ?_
 refine RL.val (Wanted.free rfl) (V.len rfl rfl el31.under rfl) rfl ?_
 refine RL.val (Wanted.free rfl) (V.bin rfl rfl rfl (B.subI (by omega) (by omega))) rfl ?_
 refine RL.val (Wanted.free rfl) (V.indexSl (T := RClu) (l := H) (a := a7) (j := H.length - 1) rfl el31.slice rfl rfl memX (by omega) (by omega)) rfl ?_
 refine RL.eff (Wanted.free rfl) (E.loadElem (T := RClu) (l := H) (a := a7) (j := H.length - 1) rfl ag37 rfl memX hHc) rfl ?_
 rintro _ _ ⟨u40, rfl, rfl⟩
 refine RL.eff (Wanted.free rfl) (E.alloc rfl ze37) rfl ?_
 rintro _ _ ⟨b9, rfl, rfl⟩
 refine RL.openClu (cs := u40) (Pick.rd (T := RClu) memX) fun na nn nc sa sn sc hcs => ?_
 subst hcs
 refine RL.eff (Wanted.free rfl) (E.storeWhole rfl rfl rfl (by rfl) sz37 pickX (by first | (simp [Value.oneCell']; done) | (simp [setAt, Value.oneCell']; done)) (by rfl)) rfl ?_
 rintro _ _ rfl
 refine RL.nil ?_
 refine SG.seq ?_
 refine SG.seq ?_
 refine SG.sl (T := RMsg) (a := sa) (l := c.sent) memX fun hsn _ _ => ?_
 refine SG.region ?_
 refine RL.val (Wanted.free rfl) (V.fieldAddr rfl rfl fo37_1) rfl ?_
 refine RL.val (Wanted.free rfl) (V.load rfl on35 rfl pickX rfl) rfl ?_
 refine RL.val (Wanted.free rfl) (V.len rfl rfl el35.under rfl) rfl ?_
 refine RL.cmp (Wanted.free rfl) (V.bin rfl rfl rfl B.eql) rfl (fun h26 => ?_) (fun h26 => ?_)
 ·
  refine RL.nil ?_
  refine SG.cond_true rfl ?_
  refine SG.seq ?_
  refine SG.region ?_
  refine RL.eff (Wanted.free rfl) (E.call rfl go28 rfl (lives_ok)) rfl ?_
  rintro _ _ ⟨rfl, rfl⟩
  refine RL.val (Wanted.free rfl) (V.assign rfl rfl) rfl ?_
  refine RL.nil ?_
  refine SG.retE (Ret.r1 Try.func11 rfl (.tmp rfl)) ?_ ⟨rfl, rfl⟩
  exact entX
 ·
  obtain ⟨q, hq, hq2⟩ := aroundV_nat (n := kk) (most := (sn : Int)) (by omega)
  obtain ⟨m, hmg⟩ : ∃ m, c.sent[q]? = some m := ⟨_, List.getElem?_eq_getElem (show q < c.sent.length by omega)⟩
  have hmem := List.mem_of_getElem? hmg
  have htame := tame_of hr hquiet h5 (by omega) hmem
  have hmo : MOk m := (hok.m m hmem).1
  have hto := (hr.1.msg m hmem).to
  obtain ⟨t, ht⟩ := Int.eq_ofNat_of_zero_le hto.1
  have htN : t < c.nodes.length := by omega
  have hts := htame.n
  have hpt := hok.p _ (Clu.p_mem htN)
  refine RL.nil ?_
  refine SG.cond_false rfl ?_
  refine SG.skip ?_
  refine SG.seq ?_
  refine SG.join (ι := Nat × Tri) (fun ⟨b10, ya, yn, yc⟩ => [(9, ptr b9 0), (10, ptr b10 0)]) (fun ⟨b10, ya, yn, yc⟩ => Blk b10 50 (mv m (.slice ya yn yc)) :: Sl RSlot ya yn yc m.slots :: Blk b9 37 [.slice na nn nc, .slice sa sn sc] :: Sl RPeer na nn nc c.nodes :: Sl RMsg sa sn sc c.sent :: L) (fun ⟨b10, ya, yn, yc⟩ => True) ?_ (fun rest => ?_)
  ·
   rintro ⟨b10, ya, yn, yc⟩ _
   try dsimp only
   refine SG.seq ?_
   refine SG.region ?_
   refine RL.eff (Wanted.free rfl) (E.alloc rfl ze69) rfl ?_
   rintro _ _ ⟨b11, rfl, rfl⟩
   refine RL.nil ?_
   refine SG.seq ?_
   refine SG.sl (T := RSlot) (a := ya) (l := m.slots) memX fun hyn _ _ => ?_
   subst hyn
   have hWr : Ent (Blk b11 69 [.slice none 0 0] :: Blk b10 50 (mv m (.slice ya m.slots.length yc)) :: Sl RSlot ya m.slots.length yc m.slots :: Blk b9 37 [.slice na nn nc, .slice sa sn sc] :: Sl RPeer na nn nc c.nodes :: Sl RMsg sa sn sc c.sent :: L) (Wr b11 [] :: Blk b10 50 (mv m (.slice ya m.slots.length yc)) :: Sl RSlot ya m.slots.length yc m.slots :: Blk b9 37 [.slice na nn nc, .slice sa sn sc] :: Sl RPeer na nn nc c.nodes :: Sl RMsg sa sn sc c.sent :: L) := Ent.trans (Ent.trans (Buf.nil (T := R8) (e := 5)) (Ent.swap _ _ _)) Wr.close
   refine SG.ent (L' := Wr b11 [] :: Blk b10 50 (mv m (.slice ya m.slots.length yc)) :: Sl RSlot ya m.slots.length yc m.slots :: Blk b9 37 [.slice na nn nc, .slice sa sn sc] :: Sl RPeer na nn nc c.nodes :: Sl RMsg sa sn sc c.sent :: L) (Ent.trans (by repeat (first | exact Ent.refl _ | (apply Ent.cons; (· repeat (first | exact Pick.here | (refine Pick.sl ?_; (· repeat (first | exact List.Mem.head _ | assumption | apply List.Mem.tail))) | apply Pick.there))) | (refine Ent.trans (Ent.drop _ _) ?_))) hWr) ?_
   refine SG.region ?_
   refine RL.val (Wanted.free rfl) (V.fieldAddr rfl rfl fo50_0) rfl ?_
   refine RL.val (Wanted.free rfl) (V.load rfl on3 rfl pickX rfl) rfl ?_
   refine RL.val (Wanted.free rfl) (V.fieldAddr rfl rfl fo50_1) rfl ?_
   refine RL.val (Wanted.free rfl) (V.load rfl on3 rfl pickX rfl) rfl ?_
   refine RL.val (Wanted.free rfl) (V.fieldAddr rfl rfl fo50_2) rfl ?_
   refine RL.val (Wanted.free rfl) (V.load rfl on3 rfl pickX rfl) rfl ?_
   refine RL.val (Wanted.free rfl) (V.fieldAddr rfl rfl fo50_3) rfl ?_
   refine RL.val (Wanted.free rfl) (V.load rfl on3 rfl pickX rfl) rfl ?_
   refine RL.val (Wanted.free rfl) (V.fieldAddr rfl rfl fo50_4) rfl ?_
   refine RL.val (Wanted.free rfl) (V.load rfl on3 rfl pickX rfl) rfl ?_
   refine RL.val (Wanted.free rfl) (V.fieldAddr rfl rfl fo50_5) rfl ?_
   refine RL.val (Wanted.free rfl) (V.load rfl on3 rfl pickX rfl) rfl ?_
   refine RL.val (Wanted.free rfl) (V.fieldAddr rfl rfl fo50_6) rfl ?_
   refine RL.val (Wanted.free rfl) (V.load rfl on3 rfl pickX rfl) rfl ?_
   refine RL.eff (Wanted.free rfl) (E.litN (xs := [.tmp 56, .tmp 58, .tmp 60, .tmp 62, .tmp 64, .tmp 66, .tmp 68]) (vs := [vI m.kind, vI m.frm, vI m.to, vI m.term, vI m.index, vI m.prev, vI m.commit]) rfl rfl rfl el22.slice ze3 rfl (by decide) (by decide) rfl (by simp [Value.cells])) rfl ?_
   rintro _ _ ⟨b69, rfl, rfl⟩
   refine RL.ent (Buf.of_els (T := RI) (b := b69) (e := 3) (m := 7) (l := msgI m) Pick.here rfl rfl (by decide) (fun _ _ _ => rows_sc.2 ⟨rfl, msgI_in htame⟩)) ?_
   refine RL.publish (T := RI) (a := some ⟨b69, 0, none⟩) Pick.here ?_
   refine RL.eff (Wanted.free rfl) (E.call rfl go40 rfl (wInts_ok (b := b11) (a := some ⟨b69, 0, none⟩) (L1 := Sl RI (some ⟨b69, 0, none⟩) 7 7 (msgI m) :: Blk b10 50 (mv m (.slice ya m.slots.length yc)) :: Sl RSlot ya m.slots.length yc m.slots :: Blk b9 37 [.slice na nn nc, .slice sa sn sc] :: Sl RPeer na nn nc c.nodes :: Sl RMsg sa sn sc c.sent :: L) (by repeat (first | exact Ent.refl _ | (apply Ent.cons; (· repeat (first | exact Pick.here | (refine Pick.sl ?_; (· repeat (first | exact List.Mem.head _ | assumption | apply List.Mem.tail))) | apply Pick.there))) | (refine Ent.trans (Ent.drop _ _) ?_))) memX (msgI_in htame) (by show 0 + 10 * 7 + 20 ≤ _; omega))) rfl ?_
   rintro _ _ ⟨rfl, rfl⟩
   rw [List.nil_append]
   refine RL.nil ?_
   refine SG.seq ?_
   have hIl : (encInts (msgI m)).length ≤ 100 := by have := encM_len m; rw [encM, List.length_append] at this; omega
   refine SG.region ?_
   refine RL.val (Wanted.free rfl) (V.fieldAddr rfl rfl fo50_8) rfl ?_
   refine RL.val (Wanted.free rfl) (V.load rfl on4 rfl pickX rfl) rfl ?_
   refine RL.eff (Wanted.free rfl) (E.call rfl go41 rfl (wBool_ok (b := b11) m.yes pickX (by omega))) rfl ?_
   rintro _ _ ⟨rfl, rfl⟩
   rw [show encInts (msgI m) ++ encBool m.yes = encM m from rfl]
   refine RL.nil ?_
   refine SG.seq ?_
   refine SG.seq ?_
   have hMl := encM_len m
   have hSl := encS_le (l := m.slots) fun x hx => (htame.s x hx).2
   refine SG.region ?_
   refine RL.val (Wanted.free rfl) (V.assign rfl rfl) rfl ?_
   refine RL.nil ?_
   refine SG.block ?_
   refine SG.weaken (SG.loop2 (fun m0 al M => ∃ i : Nat, i ≤ m.slots.length ∧ m0 = m.slots.length - i ∧ al = [(9, ptr b9 0), (10, ptr b10 0), (11, ptr b11 0), (12, vI i)] ∧ M = Wr b11 (encM m ++ encS (m.slots.take i)) :: Blk b10 50 (mv m (.slice ya m.slots.length yc)) :: Sl RSlot ya m.slots.length yc m.slots :: Blk b9 37 [.slice na nn nc, .slice sa sn sc] :: Sl RPeer na nn nc c.nodes :: Sl RMsg sa sn sc c.sent :: L) (m0 := _) ⟨0, by omega, rfl, rfl, rfl⟩ ?_) ?_ ?_
   rotate_left
   ·
    repeat (first | exact EnvLe.nil _ | refine EnvLe.cons rfl ?_)
   ·
    rw [List.take_zero, show encS [] = [] from rfl, List.append_nil]
    exact entX
   rintro _ _ _ ⟨i, hi, rfl, rfl, rfl⟩ ih0
   refine SG.seq ?_
   refine SG.seq ?_
   refine SG.region ?_
   refine RL.val (Wanted.free rfl) (V.move rfl rfl) rfl ?_
   refine RL.val (Wanted.free rfl) (V.fieldAddr rfl rfl fo50_7) rfl ?_
   refine RL.val (Wanted.free rfl) (V.load rfl on23 rfl pickX rfl) rfl ?_
   refine RL.val (Wanted.free rfl) (V.len rfl rfl el23.under rfl) rfl ?_
   refine RL.cmp (Wanted.free rfl) (V.bin rfl rfl rfl B.lss) rfl (fun h54 => ?_) (fun h54 => ?_)
   ·
    refine RL.nil ?_
    refine SG.cond_true rfl ?_
    refine SG.skip ?_
    refine SG.seq ?_
    refine SG.block ?_
    refine SG.seq ?_
    obtain ⟨y, hyg⟩ : ∃ y, m.slots[i]? = some y := ⟨_, List.getElem?_eq_getElem (show i < m.slots.length by omega)⟩
    obtain ⟨hyt, hyd⟩ := htame.s y (List.mem_of_getElem? hyg)
    have hSi := hSl i
    refine SG.elemDt (a := ya) (l := m.slots) memX hyg fun _ => ?_
    have hzl := (enc_length (zig y.term)).1
    refine SG.region ?_
    refine RL.val (Wanted.free rfl) (V.fieldAddr rfl rfl fo50_7) rfl ?_
    refine RL.val (Wanted.free rfl) (V.load rfl on23 rfl pickX rfl) rfl ?_
    refine RL.val (Wanted.free rfl) (V.move rfl rfl) rfl ?_
    refine RL.val (Wanted.free rfl) (V.indexSl (T := RSlot) (a := ya) (l := m.slots) (j := i) rfl el23.slice rfl rfl memX rfl (by omega)) rfl ?_
    refine RL.val (Wanted.free rfl) (V.fieldAt rfl rfl fo53_0 memX) rfl ?_
    refine RL.val (Wanted.free rfl) (V.loadAtF rfl on3 rfl memX rfl) rfl ?_
    refine RL.eff (Wanted.free rfl) (E.call rfl go42 rfl (wInt_ok (b := b11) y.term pickX (by simp only [List.length_append]; omega) hyt.1 hyt.2)) rfl ?_
    rintro _ _ ⟨rfl, rfl⟩
    refine RL.nil ?_
    refine SG.region ?_
    refine RL.val (Wanted.free rfl) (V.fieldAddr rfl rfl fo50_7) rfl ?_
    refine RL.val (Wanted.free rfl) (V.load rfl on23 rfl pickX rfl) rfl ?_
    refine RL.val (Wanted.free rfl) (V.move rfl rfl) rfl ?_
    refine RL.val (Wanted.free rfl) (V.indexSl (T := RSlot) (a := ya) (l := m.slots) (j := i) rfl el23.slice rfl rfl memX rfl (by omega)) rfl ?_
    refine RL.val (Wanted.free rfl) (V.fieldAt rfl rfl fo53_1 memX) rfl ?_
    refine RL.val (Wanted.free rfl) (V.loadAtF rfl on9 rfl memX rfl) rfl ?_
    refine RL.eff (Wanted.free rfl) (E.call rfl go43 rfl (wText_ok (b := b11) y.data pickX (by simp only [List.length_append]; omega))) rfl ?_
    rintro _ _ ⟨rfl, rfl⟩
    rw [show encM m ++ encS (m.slots.take i) ++ enc (zig y.term) ++ encText y.data = encM m ++ encS (m.slots.take (i + 1)) from by rw [encS_snoc hyg]; simp only [List.append_assoc]]
    refine RL.nil ?_
    refine SG.inBlock ?_
    refine SG.region ?_
    refine RL.val (Wanted.free rfl) (V.move rfl rfl) rfl ?_
    refine RL.val (Wanted.free rfl) (V.bin rfl rfl rfl (B.addI (by omega) (by omega))) rfl ?_
    refine RL.val (Wanted.free rfl) (V.assign rfl rfl) rfl ?_
    refine RL.nil ?_
    refine SG.weaken (ih0 _ _ _ ?_ ⟨i + 1, by omega, rfl, rfl, rfl⟩) ?_ ?_
    ·
     omega
    ·
     repeat (first | exact EnvLe.nil _ | refine EnvLe.cons rfl ?_)
    ·
     exact entX
   ·
    refine RL.nil ?_
    refine SG.cond_false rfl ?_
    refine SG.exit rfl ?_
    refine SG.seq ?_
    obtain rfl : i = m.slots.length := by omega
    have hSn := hSl m.slots.length
    rw [List.take_length] at hSn ⊢
    have hEl : (encM m ++ encS m.slots).length ≤ 300000 := by rw [List.length_append]; omega
    refine SG.region ?_
    refine RL.val (Wanted.free rfl) (V.fieldAddr rfl rfl fo69_0) rfl ?_
    refine RL.eff (Wanted.free rfl) (E.call rfl go45 rfl (done_ok (b := b11) (l := encM m ++ encS m.slots) pickX (by omega))) rfl ?_
    rintro _ _ ⟨a96, k96, c96, rfl, rfl⟩
    refine RL.publish (T := R8) (a := a96) Pick.here ?_
    refine RL.eff (Wanted.free rfl) (E.call rfl go44 rfl (newReader_sl (l := encM m ++ encS m.slots) memX (by omega))) rfl ?_
    rintro _ _ ⟨b13, rfl, rfl⟩
    refine RL.val (Wanted.free rfl) (V.assign rfl rfl) rfl ?_
    refine RL.nil ?_
    refine SG.seq ?_
    refine SG.seq ?_
    refine SG.sl (T := RPeer) (a := na) (l := c.nodes) memX fun hnn _ _ => ?_
    refine SG.region ?_
    refine RL.val (Wanted.free rfl) (V.move rfl rfl) rfl ?_
    refine RL.cmpF (Wanted.free rfl) (V.eqlPtrNil rfl up74 rfl rfl) rfl (by simp) ?_
    refine RL.val (Wanted.free rfl) (V.move rfl rfl) rfl ?_
    refine RL.val (Wanted.yes rfl rfl rfl rfl) (V.fieldAddr rfl rfl fo50_2) rfl ?_
    refine RL.val (Wanted.yes rfl rfl rfl rfl) (V.load rfl on3 rfl pickX rfl) rfl ?_
    refine RL.cmpF (Wanted.yes rfl rfl rfl rfl) (V.bin rfl rfl rfl B.lss) rfl (by omega) ?_
    refine RL.val (Wanted.free rfl) (V.pick_false rfl rfl rfl) rfl ?_
    refine RL.val (Wanted.free rfl) (V.move rfl rfl) rfl ?_
    refine RL.val (Wanted.yes rfl rfl rfl rfl) (V.fieldAddr rfl rfl fo50_2) rfl ?_
    refine RL.val (Wanted.yes rfl rfl rfl rfl) (V.load rfl on3 rfl pickX rfl) rfl ?_
    refine RL.val (Wanted.yes rfl rfl rfl rfl) (V.fieldAddr rfl rfl fo37_0) rfl ?_
    refine RL.val (Wanted.yes rfl rfl rfl rfl) (V.load rfl on34 rfl pickX rfl) rfl ?_
    refine RL.val (Wanted.yes rfl rfl rfl rfl) (V.len rfl rfl el34.under rfl) rfl ?_
    refine RL.cmpF (Wanted.yes rfl rfl rfl rfl) (V.bin rfl rfl rfl B.geq) rfl (by omega) ?_
    refine RL.val (Wanted.free rfl) (V.pick_false rfl rfl rfl) rfl ?_
    refine RL.nil ?_
    refine SG.cond_false rfl ?_
    refine SG.skip ?_
    refine SG.seq ?_
    refine SG.region ?_
    refine RL.val (Wanted.free rfl) (V.move rfl rfl) rfl ?_
    refine RL.eff (Wanted.free rfl) (E.call rfl go46 rfl (rInts_ok 7 (b := b13) pickX (by decide) (by decide) (by omega))) rfl ?_
    rintro _ _ ⟨l114, e114, xs114, a14, k14, c14, r114, rfl, rfl⟩
    rw [encM_read htame] at r114
    cases r114
    refine RL.val (Wanted.free rfl) (V.assign rfl rfl) rfl ?_
    refine RL.nil ?_
    refine SG.seq ?_
    refine SG.seq ?_
    refine SG.publish (T := RI) (a := a14) pickX ?_
    refine SG.sl (T := RI) (a := a14) (l := msgI m) memX fun hk14 _ _ => ?_
    have hk7 : k14 = 7 := by rw [← hk14]; rfl
    refine SG.region ?_
    refine RL.val (Wanted.free rfl) (V.move rfl rfl) rfl ?_
    refine RL.val (Wanted.free rfl) (V.len rfl rfl el22.under rfl) rfl ?_
    refine RL.cmpF (Wanted.free rfl) (V.bin rfl rfl rfl B.neq) rfl (by omega) ?_
    refine RL.nil ?_
    refine SG.cond_false rfl ?_
    refine SG.skip ?_
    refine SG.seq ?_
    refine SG.join (ι := Nat) (fun b15 => [(9, ptr b9 0), (10, ptr b10 0), (13, ptr b13 0), (15, ptr b15 0)]) (fun b15 => Blk b15 50 (mv m (.slice none 0 0)) :: Rdr b13 (encS m.slots) 0 :: Blk b10 50 (mv m (.slice ya m.slots.length yc)) :: Sl RSlot ya m.slots.length yc m.slots :: Blk b9 37 [.slice na nn nc, .slice sa sn sc] :: Sl RPeer na nn nc c.nodes :: Sl RMsg sa sn sc c.sent :: L) (fun b15 => True) ?_ (fun rest => ?_)
    ·
     rintro b15 _
     try dsimp only
     refine SG.seq ?_
     refine SG.seq ?_
     refine SG.region ?_
     refine RL.val (Wanted.free rfl) (V.assign rfl rfl) rfl ?_
     refine RL.nil ?_
     refine SG.block ?_
     refine SG.ent (Buf.nil (T := RSlot) (e := 53)) ?_
     refine SG.weaken (SG.loop2 (fun m0 al M => ∃ (i : Nat) (za : Option Addr) (zc : Nat), i ≤ m.slots.length ∧ m0 = m.slots.length - i ∧ al = [(9, ptr b9 0), (10, ptr b10 0), (13, ptr b13 0), (15, ptr b15 0), (16, vI i)] ∧ M = Rdr b13 (encS (m.slots.drop i)) 0 :: Blk b15 50 (mv m (.slice za i zc)) :: Buf RSlot 53 za i zc (m.slots.take i) :: Blk b10 50 (mv m (.slice ya m.slots.length yc)) :: Sl RSlot ya m.slots.length yc m.slots :: Blk b9 37 [.slice na nn nc, .slice sa sn sc] :: Sl RPeer na nn nc c.nodes :: Sl RMsg sa sn sc c.sent :: L) (m0 := _) ⟨0, none, 0, by omega, rfl, rfl, rfl⟩ ?_) ?_ ?_
     rotate_left
     ·
      repeat (first | exact EnvLe.nil _ | refine EnvLe.cons rfl ?_)
     ·
      rw [List.drop_zero, List.take_zero]
      exact entX
     rintro _ _ _ ⟨i, za, zc, hi, rfl, rfl, rfl⟩ ih1
     refine SG.seq ?_
     refine SG.seq ?_
     refine SG.region ?_
     refine RL.val (Wanted.free rfl) (V.move rfl rfl) rfl ?_
     refine RL.val (Wanted.free rfl) (V.fieldAddr rfl rfl fo50_7) rfl ?_
     refine RL.val (Wanted.free rfl) (V.load rfl on23 rfl pickX rfl) rfl ?_
     refine RL.val (Wanted.free rfl) (V.len rfl rfl el23.under rfl) rfl ?_
     refine RL.cmp (Wanted.free rfl) (V.bin rfl rfl rfl B.lss) rfl (fun h96 => ?_) (fun h96 => ?_)
     ·
      refine RL.nil ?_
      refine SG.cond_true rfl ?_
      refine SG.skip ?_
      refine SG.seq ?_
      refine SG.block ?_
      refine SG.join (ι := Option Addr × Nat) (fun ⟨a2, c2⟩ => [(9, ptr b9 0), (10, ptr b10 0), (13, ptr b13 0), (15, ptr b15 0), (16, vI i)]) (fun ⟨a2, c2⟩ => Rdr b13 (encS (m.slots.drop (i + 1))) 0 :: Blk b15 50 (mv m (.slice a2 (i + 1) c2)) :: Buf RSlot 53 a2 (i + 1) c2 (m.slots.take (i + 1)) :: Blk b10 50 (mv m (.slice ya m.slots.length yc)) :: Sl RSlot ya m.slots.length yc m.slots :: Blk b9 37 [.slice na nn nc, .slice sa sn sc] :: Sl RPeer na nn nc c.nodes :: Sl RMsg sa sn sc c.sent :: L) (fun ⟨a2, c2⟩ => True) ?_ (fun rest => ?_)
      ·
       rintro ⟨a2, c2⟩ _
       try dsimp only
       refine SG.inBlock ?_
       refine SG.region ?_
       refine RL.val (Wanted.free rfl) (V.move rfl rfl) rfl ?_
       refine RL.val (Wanted.free rfl) (V.bin rfl rfl rfl (B.addI (by omega) (by omega))) rfl ?_
       refine RL.val (Wanted.free rfl) (V.assign rfl rfl) rfl ?_
       refine RL.nil ?_
       refine SG.weaken (ih1 _ _ _ ?_ ⟨i + 1, a2, c2, by omega, rfl, rfl, rfl⟩) ?_ ?_
       ·
        omega
       ·
        repeat (first | exact EnvLe.nil _ | refine EnvLe.cons rfl ?_)
       ·
        exact entX
      ·
       obtain ⟨y, hyg⟩ : ∃ y, m.slots[i]? = some y := ⟨_, List.getElem?_eq_getElem (show i < m.slots.length by omega)⟩
       obtain ⟨hyt, hyd⟩ := htame.s y (List.mem_of_getElem? hyg)
       rw [encS_cons hyg]
       refine SG.drawN 11 10 (Blk b15 50 (mv m (.slice za i zc)) :: L) wide rfl rfl (by repeat (first | exact Ent.refl _ | (apply Ent.cons; (· repeat (first | exact Pick.here | (refine Pick.sl ?_; (· repeat (first | exact List.Mem.head _ | assumption | apply List.Mem.tail))) | apply Pick.there))) | (refine Ent.trans (Ent.drop _ _) ?_))) ?_
       refine RH.val 0 rfl krX krX krX krX (Wanted.free rfl) (V.fieldAddr rfl rfl fo50_7) rfl ?_
       refine RH.val 1 rfl krX krX krX krX (Wanted.free rfl) (V.load rfl on23 rfl pickX rfl) rfl ?_
       refine RH.val 2 rfl krX krX krX krX (Wanted.free rfl) (V.move rfl rfl) rfl ?_
       refine RH.val 4 rfl krX krX krX krX (Wanted.free rfl) (V.move rfl rfl) rfl ?_
       refine RH.one (i := 3) krX ?_
       refine RHone.eff rfl (Wanted.free rfl) (E.call rfl go48 rfl (rInt_ok (b := b13) pickX)) rfl ?_
       rintro _ _ ⟨l152, e152, x152, r152, rfl, rfl⟩
       refine ⟨.inr entX, ?_⟩
       rw [rdI_enc hyt.1 hyt.2] at r152
       cases r152
       refine RH.one (i := 5) krX ?_
       refine RHone.eff rfl (Wanted.free rfl) (E.call rfl go49 rfl (rText_ok 4000 (b := b13) pickX (by decide) (by decide))) rfl ?_
       rintro _ _ ⟨l154, e154, s154, r154, rfl, rfl, hs154⟩
       refine ⟨.inr entX, ?_⟩
       rw [rdS_enc (by omega) (by decide)] at r154
       cases r154
       refine RH.val 6 rfl krX krX krX krX (Wanted.free rfl) (V.buildS [(0, _), (1, _)] rfl bs53 (by exact ⟨rfl, ⟨_, rfl, rfl⟩, ⟨rfl, ⟨_, rfl, rfl⟩, trivial⟩⟩) rfl) rfl ?_
       refine RH.one (i := 7) krX ?_
       refine RHone.eff rfl (Wanted.free rfl) (E.lit1 [vI y.term, vS y.data] rfl el23.slice ze53 rfl (by decide) (by decide) rfl rfl rfl) rfl ?_
       rintro _ _ ⟨b156, rfl, rfl⟩
       refine ⟨.inr entX, ?_⟩
       refine RH.one (i := 8) krX ?_
       refine RHone.eff rfl (Wanted.free rfl) (E.append (T := RSlot) rfl rfl rfl el23 el23.noInt rfl rfl pickX (Src.litDt (y := y) pickX rfl trivial) (by first | omega | (simp; omega)) (by first | omega | (simp; omega))) rfl ?_
       intro _ _ hK108
       try rw [List.nil_append] at hK108
       try rw [Nat.zero_add] at hK108
       rw [take_snocS hyg] at hK108
       obtain ⟨a157, c157, rfl, rfl⟩ := hK108
       refine ⟨.inr entX, ?_⟩
       refine RH.val 9 rfl krX krX krX krX (Wanted.free rfl) (V.fieldAddr rfl rfl fo50_7) rfl ?_
       refine RH.one (i := 10) krX ?_
       refine RHone.eff rfl (Wanted.free rfl) (E.store1 rfl rfl rfl rfl rfl sz23 pickX rfl) rfl ?_
       rintro _ _ rfl
       refine ⟨.inl krX, ?_⟩
       refine RH.done krX ?_
       refine SG.weaken (rest ⟨a157, c157⟩ trivial) ?_ ?_
       ·
        repeat (first | exact EnvLe.nil _ | refine EnvLe.cons rfl ?_)
       ·
        exact entX
     ·
      refine RL.nil ?_
      refine SG.cond_false rfl ?_
      refine SG.exit rfl ?_
      refine SG.seq ?_
      refine SG.join (ι := Tri × Tri × Tri × Option Addr × Nat × Nat) (fun ⟨⟨k1a, k1n, k1c⟩, ⟨w1a, w1n, w1c⟩, ⟨x1a, x1n, x1c⟩, a167, c167, b17⟩ => [(9, ptr b9 0), (10, ptr b10 0), (13, ptr b13 0), (15, ptr b15 0), (17, ptr b17 0), (18, .slice a167 (handle (c.p t) m).2.length c167)]) (fun ⟨⟨k1a, k1n, k1c⟩, ⟨w1a, w1n, w1c⟩, ⟨x1a, x1n, x1c⟩, a167, c167, b17⟩ => Blk b17 26 (pv (handle (c.p t) m).1 (.slice k1a k1n k1c) (.slice w1a w1n w1c) (.slice x1a x1n x1c)) :: Sl RSlot k1a k1n k1c (handle (c.p t) m).1.log :: Sl RB w1a w1n w1c (handle (c.p t) m).1.votes :: Sl RI x1a x1n x1c (handle (c.p t) m).1.mtch :: Sl RMsg a167 (handle (c.p t) m).2.length c167 (handle (c.p t) m).2 :: Blk b15 50 (mv m (.slice za m.slots.length zc)) :: Rd RMsg (mv m (.slice ya m.slots.length yc)) m :: Rd RMsg (mv m (.slice za m.slots.length zc)) m :: Rdr b13 [] 0 :: Blk b10 50 (mv m (.slice ya m.slots.length yc)) :: Sl RSlot ya m.slots.length yc m.slots :: Blk b9 37 [.slice na nn nc, .slice sa sn sc] :: Sl RPeer na nn nc c.nodes :: Sl RMsg sa sn sc c.sent :: L) (fun ⟨⟨k1a, k1n, k1c⟩, ⟨w1a, w1n, w1c⟩, ⟨x1a, x1n, x1c⟩, a167, c167, b17⟩ => True) ?_ (fun rest => ?_)
      ·
       rintro ⟨⟨k1a, k1n, k1c⟩, ⟨w1a, w1n, w1c⟩, ⟨x1a, x1n, x1c⟩, a167, c167, b17⟩ _
       try dsimp only
       refine SG.seq ?_
       refine SG.join (ι := Tri × Tri × Tri × Option Addr × Nat × Nat) (fun ⟨⟨k2a, k2n, k2c⟩, ⟨w2a, w2n, w2c⟩, ⟨x2a, x2n, x2c⟩, a178, c178, b19⟩ => [(9, ptr b9 0), (10, ptr b10 0), (13, ptr b13 0), (15, ptr b15 0), (17, ptr b17 0), (18, .slice a167 (handle (c.p t) m).2.length c167), (19, ptr b19 0), (20, .slice a178 (handle (c.p t) m).2.length c178)]) (fun ⟨⟨k2a, k2n, k2c⟩, ⟨w2a, w2n, w2c⟩, ⟨x2a, x2n, x2c⟩, a178, c178, b19⟩ => Blk b19 26 (pv (handle (c.p t) m).1 (.slice k2a k2n k2c) (.slice w2a w2n w2c) (.slice x2a x2n x2c)) :: Sl RSlot k2a k2n k2c (handle (c.p t) m).1.log :: Sl RB w2a w2n w2c (handle (c.p t) m).1.votes :: Sl RI x2a x2n x2c (handle (c.p t) m).1.mtch :: Sl RMsg a178 (handle (c.p t) m).2.length c178 (handle (c.p t) m).2 :: Blk b17 26 (pv (handle (c.p t) m).1 (.slice k1a k1n k1c) (.slice w1a w1n w1c) (.slice x1a x1n x1c)) :: Sl RSlot k1a k1n k1c (handle (c.p t) m).1.log :: Sl RB w1a w1n w1c (handle (c.p t) m).1.votes :: Sl RI x1a x1n x1c (handle (c.p t) m).1.mtch :: Sl RMsg a167 (handle (c.p t) m).2.length c167 (handle (c.p t) m).2 :: Blk b15 50 (mv m (.slice za m.slots.length zc)) :: Rd RMsg (mv m (.slice ya m.slots.length yc)) m :: Rd RMsg (mv m (.slice za m.slots.length zc)) m :: Rdr b13 [] 0 :: Blk b10 50 (mv m (.slice ya m.slots.length yc)) :: Sl RSlot ya m.slots.length yc m.slots :: Blk b9 37 [.slice na nn nc, .slice sa sn sc] :: Sl RPeer na nn nc c.nodes :: Sl RMsg sa sn sc c.sent :: L) (fun ⟨⟨k2a, k2n, k2c⟩, ⟨w2a, w2n, w2c⟩, ⟨x2a, x2n, x2c⟩, a178, c178, b19⟩ => True) ?_ (fun rest => ?_)
       ·
        rintro ⟨⟨k2a, k2n, k2c⟩, ⟨w2a, w2n, w2c⟩, ⟨x2a, x2n, x2c⟩, a178, c178, b19⟩ _
        try dsimp only
        refine SG.seq ?_
        have hpa : POk (handle (c.p t) m).1 := by
         obtain ⟨G2, _, hr2⟩ := hr.arr (show q < c.sent.length by omega)
         have hgd : c.sent.getD q default = m := by rw [List.getD_eq_getElem?_getD, hmg]; rfl
         have hok2 := Rch.ok hr2 h1 h5 (by omega)
         have e : (cArr c q).p t = (handle (c.p t) m).1 := by unfold cArr; rw [hgd, ht, Int.toNat_natCast]; exact put_get htN _
         rw [← e]
         exact hok2.p _ (Clu.p_mem (by show t < (c.nodes.set _ _).length; rw [List.length_set]; exact htN))
        have hlike : like (handle (c.p t) m).1 (handle (handle (c.p t) m).1 m).1 := handle_twice fun e => by rw [(raised_ok hpt hmo).mn e, (raised_keep _ _).2.1]
        refine SG.ent (RPeer.mk (p := (handle (c.p t) m).1) (la := k1a) (ln := k1n) (lc := k1c) (va := w1a) (vn := w1n) (vc := w1c) (ma := x1a) (mn := x1n) (mc := x1c) memX memX memX) ?_
        refine SG.region ?_
        refine RL.val (Wanted.free rfl) (V.loadAgg (us := pv (handle (c.p t) m).1 (.slice k1a k1n k1c) (.slice w1a w1n w1c) (.slice x1a x1n x1c)) rfl ag26 rfl pickX rfl rfl) rfl ?_
        refine RL.val (Wanted.free rfl) (V.loadAgg (us := mv m (.slice ya m.slots.length yc)) rfl ag50 rfl pickX rfl rfl) rfl ?_
        refine RL.eff (Wanted.free rfl) (E.call rfl go30 rfl (handle_okw (p := (handle (c.p t) m).1) (m := m) memX memX hpa hmo)) rfl ?_
        rintro _ _ ⟨u184, a184, c184, rfl, rfl⟩
        refine RL.openPeer (us := u184) (Pick.rd (T := RPeer) memX) fun k3a k3n k3c w3a w3n w3c x3a x3n x3c hus => ?_
        subst hus
        refine RL.val (Wanted.free rfl) (V.move rfl rfl) rfl ?_
        refine RL.val (Wanted.free rfl) (V.extract rfl rfl rfl) rfl ?_
        refine RL.val (Wanted.free rfl) (V.extract rfl rfl rfl) rfl ?_
        refine RL.eff (Wanted.free rfl) (E.alloc rfl ze26) rfl ?_
        rintro _ _ ⟨b21, rfl, rfl⟩
        refine RL.eff (Wanted.free rfl) (E.storeWhole rfl rfl rfl (by rfl) sz26 pickX pv_one (by rfl)) rfl ?_
        rintro _ _ rfl
        refine RL.val (Wanted.free rfl) (V.assign rfl rfl) rfl ?_
        refine RL.nil ?_
        refine SG.seq ?_
        refine SG.seq ?_
        refine SG.ent (RPeer.mk (p := (handle (c.p t) m).1) (la := k2a) (ln := k2n) (lc := k2c) (va := w2a) (vn := w2n) (vc := w2c) (ma := x2a) (mn := x2n) (mc := x2c) memX memX memX) ?_
        refine SG.region ?_
        refine RL.val (Wanted.free rfl) (V.move rfl rfl) rfl ?_
        refine RL.eff (Wanted.free rfl) (E.call rfl go50 rfl (rEnd_ok (b := b13) pickX)) rfl ?_
        rintro _ _ ⟨rfl, rfl⟩
        refine RL.cmpF (Wanted.free rfl) (V.bin rfl rfl rfl B.neq) rfl (by simp) ?_
        refine RL.val (Wanted.free rfl) (V.move rfl rfl) rfl ?_
        refine RL.val (Wanted.yes rfl rfl rfl rfl) (V.loadAgg (us := pv (handle (c.p t) m).1 (.slice k1a k1n k1c) (.slice w1a w1n w1c) (.slice x1a x1n x1c)) rfl ag26 rfl pickX rfl rfl) rfl ?_
        refine RL.val (Wanted.yes rfl rfl rfl rfl) (V.loadAgg (us := pv (handle (c.p t) m).1 (.slice k2a k2n k2c) (.slice w2a w2n w2c) (.slice x2a x2n x2c)) rfl ag26 rfl pickX rfl rfl) rfl ?_
        refine RL.eff (Wanted.yes rfl rfl rfl rfl) (E.call rfl go14 rfl (same_ok (us := pv (handle (c.p t) m).1 (.slice k1a k1n k1c) (.slice w1a w1n w1c) (.slice x1a x1n x1c)) (us' := pv (handle (c.p t) m).1 (.slice k2a k2n k2c) (.slice w2a w2n w2c) (.slice x2a x2n x2c)) (p := (handle (c.p t) m).1) (p' := (handle (c.p t) m).1) memX memX rfl)) rfl ?_
        rintro _ _ ⟨rfl, rfl⟩
        refine RL.val (Wanted.yes rfl rfl rfl rfl) (V.not rfl rfl) rfl ?_
        refine RL.val (Wanted.free rfl) (V.pick_false rfl rfl rfl) rfl ?_
        refine RL.val (Wanted.free rfl) (V.move rfl rfl) rfl ?_
        refine RL.val (Wanted.yes rfl rfl rfl rfl) (V.move rfl rfl) rfl ?_
        refine RL.val (Wanted.yes rfl rfl rfl rfl) (V.move rfl rfl) rfl ?_
        refine RL.eff (Wanted.yes rfl rfl rfl rfl) (E.call rfl go20 rfl (sameMsgs_ok (l := (handle (c.p t) m).2) (l' := (handle (c.p t) m).2) (a := a167) (b := a178) memX memX rfl)) rfl ?_
        rintro _ _ ⟨rfl, rfl⟩
        refine RL.val (Wanted.yes rfl rfl rfl rfl) (V.not rfl rfl) rfl ?_
        refine RL.val (Wanted.free rfl) (V.pick_false rfl rfl rfl) rfl ?_
        refine RL.nil ?_
        refine SG.cond_false rfl ?_
        refine SG.skip ?_
        refine SG.seq ?_
        refine SG.region ?_
        refine RL.val (Wanted.free rfl) (V.fieldAddr rfl rfl fo26_4) rfl ?_
        refine RL.val (Wanted.free rfl) (V.load rfl on3 rfl pickX rfl) rfl ?_
        refine RL.val (Wanted.free rfl) (V.fieldAddr rfl rfl fo26_4) rfl ?_
        refine RL.eff (Wanted.free rfl) (E.store1 rfl rfl rfl rfl rfl sz3 pickX rfl) rfl ?_
        rintro _ _ rfl
        refine RL.nil ?_
        refine SG.seq ?_
        refine SG.region ?_
        refine RL.val (Wanted.free rfl) (V.fieldAddr rfl rfl fo26_7) rfl ?_
        refine RL.val (Wanted.free rfl) (V.load rfl on24 rfl pickX rfl) rfl ?_
        refine RL.val (Wanted.free rfl) (V.fieldAddr rfl rfl fo26_7) rfl ?_
        refine RL.eff (Wanted.free rfl) (E.store1 rfl rfl rfl rfl rfl sz24 pickX rfl) rfl ?_
        rintro _ _ rfl
        refine RL.nil ?_
        refine SG.seq ?_
        refine SG.region ?_
        refine RL.val (Wanted.free rfl) (V.fieldAddr rfl rfl fo26_8) rfl ?_
        refine RL.val (Wanted.free rfl) (V.load rfl on22 rfl pickX rfl) rfl ?_
        refine RL.val (Wanted.free rfl) (V.fieldAddr rfl rfl fo26_8) rfl ?_
        refine RL.eff (Wanted.free rfl) (E.store1 rfl rfl rfl rfl rfl sz22 pickX rfl) rfl ?_
        rintro _ _ rfl
        refine RL.nil ?_
        refine SG.seq ?_
        refine SG.ent (RPeer.mk (p := { (handle (handle (c.p t) m).1 m).1 with role := (handle (c.p t) m).1.role, votes := (handle (c.p t) m).1.votes, mtch := (handle (c.p t) m).1.mtch }) (la := k3a) (ln := k3n) (lc := k3c) (va := w1a) (vn := w1n) (vc := w1c) (ma := x1a) (mn := x1n) (mc := x1c) memX memX memX) ?_
        refine SG.region ?_
        refine RL.val (Wanted.free rfl) (V.loadAgg (us := pv (handle (c.p t) m).1 (.slice k1a k1n k1c) (.slice w1a w1n w1c) (.slice x1a x1n x1c)) rfl ag26 rfl pickX rfl rfl) rfl ?_
        refine RL.val (Wanted.free rfl) (V.loadAgg (us := pv { (handle (handle (c.p t) m).1 m).1 with role := (handle (c.p t) m).1.role, votes := (handle (c.p t) m).1.votes, mtch := (handle (c.p t) m).1.mtch } (.slice k3a k3n k3c) (.slice w1a w1n w1c) (.slice x1a x1n x1c)) rfl ag26 rfl pickX rfl rfl) rfl ?_
        refine RL.eff (Wanted.free rfl) (E.call rfl go14 rfl (same_ok (us := pv (handle (c.p t) m).1 (.slice k1a k1n k1c) (.slice w1a w1n w1c) (.slice x1a x1n x1c)) (us' := pv { (handle (handle (c.p t) m).1 m).1 with role := (handle (c.p t) m).1.role, votes := (handle (c.p t) m).1.votes, mtch := (handle (c.p t) m).1.mtch } (.slice k3a k3n k3c) (.slice w1a w1n w1c) (.slice x1a x1n x1c)) (p := (handle (c.p t) m).1) (p' := { (handle (handle (c.p t) m).1 m).1 with role := (handle (c.p t) m).1.role, votes := (handle (c.p t) m).1.votes, mtch := (handle (c.p t) m).1.mtch }) memX memX hlike.symm)) rfl ?_
        rintro _ _ ⟨rfl, rfl⟩
        refine RL.val (Wanted.free rfl) (V.move rfl rfl) rfl ?_
        refine RL.eff (Wanted.yes rfl rfl rfl rfl) (E.call rfl go28 rfl (lives_ok)) rfl ?_
        rintro _ _ ⟨rfl, rfl⟩
        refine RL.val (Wanted.free rfl) (V.pick_true rfl rfl rfl) rfl ?_
        refine RL.val (Wanted.free rfl) (V.assign rfl rfl) rfl ?_
        refine RL.nil ?_
        refine SG.retE (Ret.r1 Try.func11 rfl (.tmp rfl)) ?_ ⟨rfl, rfl⟩
        exact entX
       ·
        refine SG.drawL 14 12 wide rfl rfl ?_
        refine RH.val 0 rfl krX krX krX krX (Wanted.free rfl) (V.fieldAddr rfl rfl fo37_0) rfl ?_
        refine RH.val 1 rfl krX krX krX krX (Wanted.free rfl) (V.load rfl on34 rfl pickX rfl) rfl ?_
        refine RH.val 2 rfl krX krX krX krX (Wanted.free rfl) (V.fieldAddr rfl rfl fo50_2) rfl ?_
        refine RH.val 3 rfl krX krX krX krX (Wanted.free rfl) (V.load rfl on3 rfl pickX rfl) rfl ?_
        refine RH.val 4 rfl krX krX krX krX (Wanted.free rfl) (V.indexSl (T := RPeer) (l := c.nodes) (a := na) (j := t) rfl el34.slice rfl rfl memX ht htN) rfl ?_
        refine RH.val 6 rfl krX krX krX krX (Wanted.free rfl) (V.loadAgg (us := mv m (.slice za m.slots.length zc)) rfl ag50 rfl pickX rfl rfl) rfl ?_
        refine RH.two (i := 5) (j := 11) krX ?_ ?_
        ·
         refine RHone.eff rfl (Wanted.free rfl) (E.loadElem (T := RPeer) (l := c.nodes) (a := na) (j := t) rfl ag26 rfl memX (Clu.p_get (by omega))) rfl ?_
         rintro _ _ ⟨u176, rfl, rfl⟩
         refine ⟨.inr entX, ?_⟩
         refine RH.two (i := 7) (j := 11) krX ?_ ?_
         ·
          refine RHone.eff rfl (Wanted.free rfl) (E.call rfl go30 rfl (handle_okw (p := (c.p t)) (m := m) memX memX hpt hmo)) rfl ?_
          rintro _ _ ⟨u178, a178, c178, rfl, rfl⟩
          refine ⟨.inr entX, ?_⟩
          refine RH.openPeer (us := u178) (Pick.rd (T := RPeer) memX) fun k2a k2n k2c w2a w2n w2c x2a x2n x2c hus => ?_
          subst hus
          refine RH.val 8 rfl krX krX krX krX (Wanted.free rfl) (V.move rfl rfl) rfl ?_
          refine RH.val 9 rfl krX krX krX krX (Wanted.free rfl) (V.extract rfl rfl rfl) rfl ?_
          refine RH.pure 10 rfl krX krX krX krX (Wanted.free rfl) (V.extract rfl rfl rfl) rfl ?_
          refine RH.one (i := 11) krX ?_
          refine RHone.eff rfl (Wanted.free rfl) (E.alloc rfl ze26) rfl ?_
          rintro _ _ ⟨b19, rfl, rfl⟩
          refine ⟨.inr entX, ?_⟩
          refine RH.one (i := 12) krX ?_
          refine RHone.eff rfl (Wanted.free rfl) (E.storeWhole rfl rfl rfl (by rfl) sz26 pickX pv_one (by rfl)) rfl ?_
          rintro _ _ rfl
          refine ⟨.inl krX, ?_⟩
          refine RH.pure 13 rfl krX krX krX krX (Wanted.free rfl) (V.assign rfl rfl) rfl ?_
          refine RH.done krX ?_
          refine SG.weaken (rest ⟨(k2a, k2n, k2c), (w2a, w2n, w2c), (x2a, x2n, x2c), a178, c178, b19⟩ trivial) ?_ ?_
          ·
           repeat (first | exact EnvLe.nil _ | refine EnvLe.cons rfl ?_)
          ·
           exact entX
         ·
          refine RHone.eff rfl (Wanted.free rfl) (E.alloc rfl ze26) rfl ?_
          rintro _ _ ⟨b19, rfl, rfl⟩
          refine ⟨.inr entX, ?_⟩
          refine RH.one (i := 7) krX ?_
          refine RHone.eff rfl (Wanted.free rfl) (E.call rfl go30 rfl (handle_okw (p := (c.p t)) (m := m) memX memX hpt hmo)) rfl ?_
          rintro _ _ ⟨u178, a178, c178, rfl, rfl⟩
          refine ⟨.inr entX, ?_⟩
          refine RH.openPeer (us := u178) (Pick.rd (T := RPeer) memX) fun k2a k2n k2c w2a w2n w2c x2a x2n x2c hus => ?_
          subst hus
          refine RH.val 8 rfl krX krX krX krX (Wanted.free rfl) (V.move rfl rfl) rfl ?_
          refine RH.val 9 rfl krX krX krX krX (Wanted.free rfl) (V.extract rfl rfl rfl) rfl ?_
          refine RH.pure 10 rfl krX krX krX krX (Wanted.free rfl) (V.extract rfl rfl rfl) rfl ?_
          refine RH.one (i := 12) krX ?_
          refine RHone.eff rfl (Wanted.free rfl) (E.storeWhole rfl rfl rfl (by rfl) sz26 pickX pv_one (by rfl)) rfl ?_
          rintro _ _ rfl
          refine ⟨.inl krX, ?_⟩
          refine RH.pure 13 rfl krX krX krX krX (Wanted.free rfl) (V.assign rfl rfl) rfl ?_
          refine RH.done krX ?_
          refine SG.weaken (rest ⟨(k2a, k2n, k2c), (w2a, w2n, w2c), (x2a, x2n, x2c), a178, c178, b19⟩ trivial) ?_ ?_
          ·
           repeat (first | exact EnvLe.nil _ | refine EnvLe.cons rfl ?_)
          ·
           exact entX
        ·
         refine RHone.eff rfl (Wanted.free rfl) (E.alloc rfl ze26) rfl ?_
         rintro _ _ ⟨b19, rfl, rfl⟩
         refine ⟨.inr entX, ?_⟩
         refine RH.one (i := 5) krX ?_
         refine RHone.eff rfl (Wanted.free rfl) (E.loadElem (T := RPeer) (l := c.nodes) (a := na) (j := t) rfl ag26 rfl memX (Clu.p_get (by omega))) rfl ?_
         rintro _ _ ⟨u176, rfl, rfl⟩
         refine ⟨.inr entX, ?_⟩
         refine RH.one (i := 7) krX ?_
         refine RHone.eff rfl (Wanted.free rfl) (E.call rfl go30 rfl (handle_okw (p := (c.p t)) (m := m) memX memX hpt hmo)) rfl ?_
         rintro _ _ ⟨u178, a178, c178, rfl, rfl⟩
         refine ⟨.inr entX, ?_⟩
         refine RH.openPeer (us := u178) (Pick.rd (T := RPeer) memX) fun k2a k2n k2c w2a w2n w2c x2a x2n x2c hus => ?_
         subst hus
         refine RH.val 8 rfl krX krX krX krX (Wanted.free rfl) (V.move rfl rfl) rfl ?_
         refine RH.val 9 rfl krX krX krX krX (Wanted.free rfl) (V.extract rfl rfl rfl) rfl ?_
         refine RH.pure 10 rfl krX krX krX krX (Wanted.free rfl) (V.extract rfl rfl rfl) rfl ?_
         refine RH.one (i := 12) krX ?_
         refine RHone.eff rfl (Wanted.free rfl) (E.storeWhole rfl rfl rfl (by rfl) sz26 pickX pv_one (by rfl)) rfl ?_
         rintro _ _ rfl
         refine ⟨.inl krX, ?_⟩
         refine RH.pure 13 rfl krX krX krX krX (Wanted.free rfl) (V.assign rfl rfl) rfl ?_
         refine RH.done krX ?_
         refine SG.weaken (rest ⟨(k2a, k2n, k2c), (w2a, w2n, w2c), (x2a, x2n, x2c), a178, c178, b19⟩ trivial) ?_ ?_
         ·
          repeat (first | exact EnvLe.nil _ | refine EnvLe.cons rfl ?_)
         ·
          exact entX
      ·
       obtain rfl : i = m.slots.length := by omega
       rw [List.drop_length, show encS [] = [] from rfl, List.take_length]
       refine SG.publish (T := RSlot) (a := za) pickX ?_
       refine SG.ent (RMsg.mk (m := m) (a := ya) (n' := m.slots.length) (c := yc) memX) ?_
       refine SG.ent (RMsg.mk (m := m) (a := za) (n' := m.slots.length) (c := zc) memX) ?_
       refine SG.drawL 14 12 wide rfl rfl ?_
       refine RH.val 0 rfl krX krX krX krX (Wanted.free rfl) (V.fieldAddr rfl rfl fo37_0) rfl ?_
       refine RH.val 1 rfl krX krX krX krX (Wanted.free rfl) (V.load rfl on34 rfl pickX rfl) rfl ?_
       refine RH.val 2 rfl krX krX krX krX (Wanted.free rfl) (V.fieldAddr rfl rfl fo50_2) rfl ?_
       refine RH.val 3 rfl krX krX krX krX (Wanted.free rfl) (V.load rfl on3 rfl pickX rfl) rfl ?_
       refine RH.val 4 rfl krX krX krX krX (Wanted.free rfl) (V.indexSl (T := RPeer) (l := c.nodes) (a := na) (j := t) rfl el34.slice rfl rfl memX ht htN) rfl ?_
       refine RH.val 6 rfl krX krX krX krX (Wanted.free rfl) (V.loadAgg (us := mv m (.slice ya m.slots.length yc)) rfl ag50 rfl pickX rfl rfl) rfl ?_
       refine RH.two (i := 5) (j := 11) krX ?_ ?_
       ·
        refine RHone.eff rfl (Wanted.free rfl) (E.loadElem (T := RPeer) (l := c.nodes) (a := na) (j := t) rfl ag26 rfl memX (Clu.p_get (by omega))) rfl ?_
        rintro _ _ ⟨u165, rfl, rfl⟩
        refine ⟨.inr entX, ?_⟩
        refine RH.two (i := 7) (j := 11) krX ?_ ?_
        ·
         refine RHone.eff rfl (Wanted.free rfl) (E.call rfl go30 rfl (handle_okw (p := (c.p t)) (m := m) memX memX hpt hmo)) rfl ?_
         rintro _ _ ⟨u167, a167, c167, rfl, rfl⟩
         refine ⟨.inr entX, ?_⟩
         refine RH.openPeer (us := u167) (Pick.rd (T := RPeer) memX) fun k1a k1n k1c w1a w1n w1c x1a x1n x1c hus => ?_
         subst hus
         refine RH.val 8 rfl krX krX krX krX (Wanted.free rfl) (V.move rfl rfl) rfl ?_
         refine RH.val 9 rfl krX krX krX krX (Wanted.free rfl) (V.extract rfl rfl rfl) rfl ?_
         refine RH.pure 10 rfl krX krX krX krX (Wanted.free rfl) (V.extract rfl rfl rfl) rfl ?_
         refine RH.one (i := 11) krX ?_
         refine RHone.eff rfl (Wanted.free rfl) (E.alloc rfl ze26) rfl ?_
         rintro _ _ ⟨b17, rfl, rfl⟩
         refine ⟨.inr entX, ?_⟩
         refine RH.one (i := 12) krX ?_
         refine RHone.eff rfl (Wanted.free rfl) (E.storeWhole rfl rfl rfl (by rfl) sz26 pickX pv_one (by rfl)) rfl ?_
         rintro _ _ rfl
         refine ⟨.inl krX, ?_⟩
         refine RH.pure 13 rfl krX krX krX krX (Wanted.free rfl) (V.assign rfl rfl) rfl ?_
         refine RH.done krX ?_
         refine SG.weaken (rest ⟨(k1a, k1n, k1c), (w1a, w1n, w1c), (x1a, x1n, x1c), a167, c167, b17⟩ trivial) ?_ ?_
         ·
          repeat (first | exact EnvLe.nil _ | refine EnvLe.cons rfl ?_)
         ·
          exact entX
        ·
         refine RHone.eff rfl (Wanted.free rfl) (E.alloc rfl ze26) rfl ?_
         rintro _ _ ⟨b17, rfl, rfl⟩
         refine ⟨.inr entX, ?_⟩
         refine RH.one (i := 7) krX ?_
         refine RHone.eff rfl (Wanted.free rfl) (E.call rfl go30 rfl (handle_okw (p := (c.p t)) (m := m) memX memX hpt hmo)) rfl ?_
         rintro _ _ ⟨u167, a167, c167, rfl, rfl⟩
         refine ⟨.inr entX, ?_⟩
         refine RH.openPeer (us := u167) (Pick.rd (T := RPeer) memX) fun k1a k1n k1c w1a w1n w1c x1a x1n x1c hus => ?_
         subst hus
         refine RH.val 8 rfl krX krX krX krX (Wanted.free rfl) (V.move rfl rfl) rfl ?_
         refine RH.val 9 rfl krX krX krX krX (Wanted.free rfl) (V.extract rfl rfl rfl) rfl ?_
         refine RH.pure 10 rfl krX krX krX krX (Wanted.free rfl) (V.extract rfl rfl rfl) rfl ?_
         refine RH.one (i := 12) krX ?_
         refine RHone.eff rfl (Wanted.free rfl) (E.storeWhole rfl rfl rfl (by rfl) sz26 pickX pv_one (by rfl)) rfl ?_
         rintro _ _ rfl
         refine ⟨.inl krX, ?_⟩
         refine RH.pure 13 rfl krX krX krX krX (Wanted.free rfl) (V.assign rfl rfl) rfl ?_
         refine RH.done krX ?_
         refine SG.weaken (rest ⟨(k1a, k1n, k1c), (w1a, w1n, w1c), (x1a, x1n, x1c), a167, c167, b17⟩ trivial) ?_ ?_
         ·
          repeat (first | exact EnvLe.nil _ | refine EnvLe.cons rfl ?_)
         ·
          exact entX
       ·
        refine RHone.eff rfl (Wanted.free rfl) (E.alloc rfl ze26) rfl ?_
        rintro _ _ ⟨b17, rfl, rfl⟩
        refine ⟨.inr entX, ?_⟩
        refine RH.one (i := 5) krX ?_
        refine RHone.eff rfl (Wanted.free rfl) (E.loadElem (T := RPeer) (l := c.nodes) (a := na) (j := t) rfl ag26 rfl memX (Clu.p_get (by omega))) rfl ?_
        rintro _ _ ⟨u165, rfl, rfl⟩
        refine ⟨.inr entX, ?_⟩
        refine RH.one (i := 7) krX ?_
        refine RHone.eff rfl (Wanted.free rfl) (E.call rfl go30 rfl (handle_okw (p := (c.p t)) (m := m) memX memX hpt hmo)) rfl ?_
        rintro _ _ ⟨u167, a167, c167, rfl, rfl⟩
        refine ⟨.inr entX, ?_⟩
        refine RH.openPeer (us := u167) (Pick.rd (T := RPeer) memX) fun k1a k1n k1c w1a w1n w1c x1a x1n x1c hus => ?_
        subst hus
        refine RH.val 8 rfl krX krX krX krX (Wanted.free rfl) (V.move rfl rfl) rfl ?_
        refine RH.val 9 rfl krX krX krX krX (Wanted.free rfl) (V.extract rfl rfl rfl) rfl ?_
        refine RH.pure 10 rfl krX krX krX krX (Wanted.free rfl) (V.extract rfl rfl rfl) rfl ?_
        refine RH.one (i := 12) krX ?_
        refine RHone.eff rfl (Wanted.free rfl) (E.storeWhole rfl rfl rfl (by rfl) sz26 pickX pv_one (by rfl)) rfl ?_
        rintro _ _ rfl
        refine ⟨.inl krX, ?_⟩
        refine RH.pure 13 rfl krX krX krX krX (Wanted.free rfl) (V.assign rfl rfl) rfl ?_
        refine RH.done krX ?_
        refine SG.weaken (rest ⟨(k1a, k1n, k1c), (w1a, w1n, w1c), (x1a, x1n, x1c), a167, c167, b17⟩ trivial) ?_ ?_
        ·
         repeat (first | exact EnvLe.nil _ | refine EnvLe.cons rfl ?_)
        ·
         exact entX
    ·
     refine SG.drawN 26 25 (Sl RI a14 k14 c14 (msgI m) :: L) wide rfl rfl (by repeat (first | exact Ent.refl _ | (apply Ent.cons; (· repeat (first | exact Pick.here | (refine Pick.sl ?_; (· repeat (first | exact List.Mem.head _ | assumption | apply List.Mem.tail))) | apply Pick.there))) | (refine Ent.trans (Ent.drop _ _) ?_))) ?_
     refine RH.val 0 rfl krX krX krX krX (Wanted.free rfl) (V.move rfl rfl) rfl ?_
     refine RH.val 1 rfl krX krX krX krX (Wanted.free rfl) (V.indexSl (T := RI) (a := a14) (l := msgI m) (j := 0) rfl el22.slice rfl rfl memX rfl (by show 0 < 7; decide)) rfl ?_
     refine RH.val 2 rfl krX krX krX krX (Wanted.free rfl) (V.loadSc (l := msgI m) (y := m.kind) (j := 0) rfl on3 rfl (show Sl RI a14 k14 c14 (msgI m) ∈ _ from memX) rfl) rfl ?_
     refine RH.val 3 rfl krX krX krX krX (Wanted.free rfl) (V.move rfl rfl) rfl ?_
     refine RH.val 4 rfl krX krX krX krX (Wanted.free rfl) (V.indexSl (T := RI) (a := a14) (l := msgI m) (j := 1) rfl el22.slice rfl rfl memX rfl (by show 1 < 7; decide)) rfl ?_
     refine RH.val 5 rfl krX krX krX krX (Wanted.free rfl) (V.loadSc (l := msgI m) (y := m.frm) (j := 1) rfl on3 rfl (show Sl RI a14 k14 c14 (msgI m) ∈ _ from memX) rfl) rfl ?_
     refine RH.val 6 rfl krX krX krX krX (Wanted.free rfl) (V.move rfl rfl) rfl ?_
     refine RH.val 7 rfl krX krX krX krX (Wanted.free rfl) (V.indexSl (T := RI) (a := a14) (l := msgI m) (j := 2) rfl el22.slice rfl rfl memX rfl (by show 2 < 7; decide)) rfl ?_
     refine RH.val 8 rfl krX krX krX krX (Wanted.free rfl) (V.loadSc (l := msgI m) (y := m.to) (j := 2) rfl on3 rfl (show Sl RI a14 k14 c14 (msgI m) ∈ _ from memX) rfl) rfl ?_
     refine RH.val 9 rfl krX krX krX krX (Wanted.free rfl) (V.move rfl rfl) rfl ?_
     refine RH.val 10 rfl krX krX krX krX (Wanted.free rfl) (V.indexSl (T := RI) (a := a14) (l := msgI m) (j := 3) rfl el22.slice rfl rfl memX rfl (by show 3 < 7; decide)) rfl ?_
     refine RH.val 11 rfl krX krX krX krX (Wanted.free rfl) (V.loadSc (l := msgI m) (y := m.term) (j := 3) rfl on3 rfl (show Sl RI a14 k14 c14 (msgI m) ∈ _ from memX) rfl) rfl ?_
     refine RH.val 12 rfl krX krX krX krX (Wanted.free rfl) (V.move rfl rfl) rfl ?_
     refine RH.val 13 rfl krX krX krX krX (Wanted.free rfl) (V.indexSl (T := RI) (a := a14) (l := msgI m) (j := 4) rfl el22.slice rfl rfl memX rfl (by show 4 < 7; decide)) rfl ?_
     refine RH.val 14 rfl krX krX krX krX (Wanted.free rfl) (V.loadSc (l := msgI m) (y := m.index) (j := 4) rfl on3 rfl (show Sl RI a14 k14 c14 (msgI m) ∈ _ from memX) rfl) rfl ?_
     refine RH.val 15 rfl krX krX krX krX (Wanted.free rfl) (V.move rfl rfl) rfl ?_
     refine RH.val 16 rfl krX krX krX krX (Wanted.free rfl) (V.indexSl (T := RI) (a := a14) (l := msgI m) (j := 5) rfl el22.slice rfl rfl memX rfl (by show 5 < 7; decide)) rfl ?_
     refine RH.val 17 rfl krX krX krX krX (Wanted.free rfl) (V.loadSc (l := msgI m) (y := m.prev) (j := 5) rfl on3 rfl (show Sl RI a14 k14 c14 (msgI m) ∈ _ from memX) rfl) rfl ?_
     refine RH.val 18 rfl krX krX krX krX (Wanted.free rfl) (V.move rfl rfl) rfl ?_
     refine RH.val 19 rfl krX krX krX krX (Wanted.free rfl) (V.indexSl (T := RI) (a := a14) (l := msgI m) (j := 6) rfl el22.slice rfl rfl memX rfl (by show 6 < 7; decide)) rfl ?_
     refine RH.val 20 rfl krX krX krX krX (Wanted.free rfl) (V.loadSc (l := msgI m) (y := m.commit) (j := 6) rfl on3 rfl (show Sl RI a14 k14 c14 (msgI m) ∈ _ from memX) rfl) rfl ?_
     refine RH.val 21 rfl krX krX krX krX (Wanted.free rfl) (V.move rfl rfl) rfl ?_
     refine RH.two (i := 22) (j := 24) krX ?_ ?_
     ·
      refine RHone.eff rfl (Wanted.free rfl) (E.call rfl go47 rfl (rBool_ok (b := b13) pickX)) rfl ?_
      rintro _ _ ⟨l140, e140, x140, r140, rfl, rfl⟩
      refine ⟨.inr entX, ?_⟩
      rw [rdB_enc] at r140
      cases r140
      refine RH.val 23 rfl krX krX krX krX (Wanted.free rfl) (V.buildS [(0, _), (1, _), (2, _), (3, _), (4, _), (5, _), (6, _), (8, _)] rfl bs50 (by exact ⟨rfl, ⟨_, rfl, rfl⟩, ⟨rfl, ⟨_, rfl, rfl⟩, ⟨rfl, ⟨_, rfl, rfl⟩, ⟨rfl, ⟨_, rfl, rfl⟩, ⟨rfl, ⟨_, rfl, rfl⟩, ⟨rfl, ⟨_, rfl, rfl⟩, ⟨rfl, ⟨_, rfl, rfl⟩, ⟨rfl, ⟨_, rfl, rfl⟩, trivial⟩⟩⟩⟩⟩⟩⟩⟩) rfl) rfl ?_
      refine RH.one (i := 24) krX ?_
      refine RHone.eff rfl (Wanted.free rfl) (E.alloc rfl ze50) rfl ?_
      rintro _ _ ⟨b15, rfl, rfl⟩
      refine ⟨.inr entX, ?_⟩
      refine RH.one (i := 25) krX ?_
      refine RHone.eff rfl (Wanted.free rfl) (E.storeWhole rfl rfl rfl (by rfl) sz50 pickX (by first | (simp [Value.oneCell']; done) | (simp [setAt, Value.oneCell']; done)) (by rfl)) rfl ?_
      rintro _ _ rfl
      refine ⟨.inl krX, ?_⟩
      refine RH.done krX ?_
      refine SG.weaken (rest b15 trivial) ?_ ?_
      ·
       repeat (first | exact EnvLe.nil _ | refine EnvLe.cons rfl ?_)
      ·
       exact entX
     ·
      refine RHone.eff rfl (Wanted.free rfl) (E.alloc rfl ze50) rfl ?_
      rintro _ _ ⟨b15, rfl, rfl⟩
      refine ⟨.inr entX, ?_⟩
      refine RH.one (i := 22) krX ?_
      refine RHone.eff rfl (Wanted.free rfl) (E.call rfl go47 rfl (rBool_ok (b := b13) pickX)) rfl ?_
      rintro _ _ ⟨l140, e140, x140, r140, rfl, rfl⟩
      refine ⟨.inr entX, ?_⟩
      rw [rdB_enc] at r140
      cases r140
      refine RH.val 23 rfl krX krX krX krX (Wanted.free rfl) (V.buildS [(0, _), (1, _), (2, _), (3, _), (4, _), (5, _), (6, _), (8, _)] rfl bs50 (by exact ⟨rfl, ⟨_, rfl, rfl⟩, ⟨rfl, ⟨_, rfl, rfl⟩, ⟨rfl, ⟨_, rfl, rfl⟩, ⟨rfl, ⟨_, rfl, rfl⟩, ⟨rfl, ⟨_, rfl, rfl⟩, ⟨rfl, ⟨_, rfl, rfl⟩, ⟨rfl, ⟨_, rfl, rfl⟩, ⟨rfl, ⟨_, rfl, rfl⟩, trivial⟩⟩⟩⟩⟩⟩⟩⟩) rfl) rfl ?_
      refine RH.one (i := 25) krX ?_
      refine RHone.eff rfl (Wanted.free rfl) (E.storeWhole rfl rfl rfl (by rfl) sz50 pickX (by first | (simp [Value.oneCell']; done) | (simp [setAt, Value.oneCell']; done)) (by rfl)) rfl ?_
      rintro _ _ rfl
      refine ⟨.inl krX, ?_⟩
      refine RH.done krX ?_
      refine SG.weaken (rest b15 trivial) ?_ ?_
      ·
       repeat (first | exact EnvLe.nil _ | refine EnvLe.cons rfl ?_)
      ·
       exact entX
  ·
   refine SG.drawL 11 10 wide rfl rfl ?_
   refine RH.val 0 rfl krX krX krX krX (Wanted.free rfl) (V.fieldAddr rfl rfl fo37_1) rfl ?_
   refine RH.val 1 rfl krX krX krX krX (Wanted.free rfl) (V.load rfl on35 rfl pickX rfl) rfl ?_
   refine RH.val 2 rfl krX krX krX krX (Wanted.free rfl) (V.move rfl rfl) rfl ?_
   refine RH.val 3 rfl krX krX krX krX (Wanted.free rfl) (V.fieldAddr rfl rfl fo37_1) rfl ?_
   refine RH.val 4 rfl krX krX krX krX (Wanted.free rfl) (V.load rfl on35 rfl pickX rfl) rfl ?_
   refine RH.val 5 rfl krX krX krX krX (Wanted.free rfl) (V.len rfl rfl el35.under rfl) rfl ?_
   refine RH.two (i := 6) (j := 9) krX ?_ ?_
   ·
    refine RHone.eff rfl (Wanted.free rfl) (E.call rfl go29 rfl (around_ok _ _ hkk.1 hkk.2 (by omega))) rfl ?_
    rintro _ _ ⟨rfl, rfl⟩
    refine ⟨.inr entX, ?_⟩
    rw [hq]
    refine RH.val 7 rfl krX krX krX krX (Wanted.free rfl) (V.indexSl (T := RMsg) (l := c.sent) (a := sa) (j := q) rfl el35.slice rfl rfl memX rfl (by omega)) rfl ?_
    refine RH.two (i := 8) (j := 9) krX ?_ ?_
    ·
     refine RHone.eff rfl (Wanted.free rfl) (E.loadElem (T := RMsg) (l := c.sent) (a := sa) (j := q) rfl ag50 rfl memX hmg) rfl ?_
     rintro _ _ ⟨u54, rfl, rfl⟩
     refine ⟨.inr entX, ?_⟩
     refine RH.one (i := 9) krX ?_
     refine RHone.eff rfl (Wanted.free rfl) (E.alloc rfl ze50) rfl ?_
     rintro _ _ ⟨b10, rfl, rfl⟩
     refine ⟨.inr entX, ?_⟩
     refine RH.openMsg (us := u54) (Pick.rd (show Rd RMsg u54 _ ∈ _ from memX)) fun ya yn yc hy => ?_
     subst hy
     refine RH.one (i := 10) krX ?_
     refine RHone.eff rfl (Wanted.free rfl) (E.storeWhole rfl rfl rfl (by rfl) sz50 pickX mv_one (by rfl)) rfl ?_
     rintro _ _ rfl
     refine ⟨.inl krX, ?_⟩
     refine RH.done krX ?_
     refine SG.weaken (rest ⟨b10, ya, yn, yc⟩ trivial) ?_ ?_
     ·
      repeat (first | exact EnvLe.nil _ | refine EnvLe.cons rfl ?_)
     ·
      exact entX
    ·
     refine RHone.eff rfl (Wanted.free rfl) (E.alloc rfl ze50) rfl ?_
     rintro _ _ ⟨b10, rfl, rfl⟩
     refine ⟨.inr entX, ?_⟩
     refine RH.one (i := 8) krX ?_
     refine RHone.eff rfl (Wanted.free rfl) (E.loadElem (T := RMsg) (l := c.sent) (a := sa) (j := q) rfl ag50 rfl memX hmg) rfl ?_
     rintro _ _ ⟨u54, rfl, rfl⟩
     refine ⟨.inr entX, ?_⟩
     refine RH.openMsg (us := u54) (Pick.rd (show Rd RMsg u54 _ ∈ _ from memX)) fun ya yn yc hy => ?_
     subst hy
     refine RH.one (i := 10) krX ?_
     refine RHone.eff rfl (Wanted.free rfl) (E.storeWhole rfl rfl rfl (by rfl) sz50 pickX mv_one (by rfl)) rfl ?_
     rintro _ _ rfl
     refine ⟨.inl krX, ?_⟩
     refine RH.done krX ?_
     refine SG.weaken (rest ⟨b10, ya, yn, yc⟩ trivial) ?_ ?_
     ·
      repeat (first | exact EnvLe.nil _ | refine EnvLe.cons rfl ?_)
     ·
      exact entX
   ·
    refine RHone.eff rfl (Wanted.free rfl) (E.alloc rfl ze50) rfl ?_
    rintro _ _ ⟨b10, rfl, rfl⟩
    refine ⟨.inr entX, ?_⟩
    refine RH.one (i := 6) krX ?_
    refine RHone.eff rfl (Wanted.free rfl) (E.call rfl go29 rfl (around_ok _ _ hkk.1 hkk.2 (by omega))) rfl ?_
    rintro _ _ ⟨rfl, rfl⟩
    refine ⟨.inr entX, ?_⟩
    rw [hq]
    refine RH.val 7 rfl krX krX krX krX (Wanted.free rfl) (V.indexSl (T := RMsg) (l := c.sent) (a := sa) (j := q) rfl el35.slice rfl rfl memX rfl (by omega)) rfl ?_
    refine RH.one (i := 8) krX ?_
    refine RHone.eff rfl (Wanted.free rfl) (E.loadElem (T := RMsg) (l := c.sent) (a := sa) (j := q) rfl ag50 rfl memX hmg) rfl ?_
    rintro _ _ ⟨u54, rfl, rfl⟩
    refine ⟨.inr entX, ?_⟩
    refine RH.openMsg (us := u54) (Pick.rd (show Rd RMsg u54 _ ∈ _ from memX)) fun ya yn yc hy => ?_
    subst hy
    refine RH.one (i := 10) krX ?_
    refine RHone.eff rfl (Wanted.free rfl) (E.storeWhole rfl rfl rfl (by rfl) sz50 pickX mv_one (by rfl)) rfl ?_
    rintro _ _ rfl
    refine ⟨.inl krX, ?_⟩
    refine RH.done krX ?_
    refine SG.weaken (rest ⟨b10, ya, yn, yc⟩ trivial) ?_ ?_
    ·
     repeat (first | exact EnvLe.nil _ | refine EnvLe.cons rfl ?_)
    ·
     exact entX

end Go.Proofs.Ytilcnglcflohoaa
