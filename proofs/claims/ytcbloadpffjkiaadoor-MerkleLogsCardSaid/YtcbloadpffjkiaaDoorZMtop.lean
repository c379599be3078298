/- Top. -/
import Derived.Test.YtcbloadpffjkiaaDoorZMback
import Derived.RangeFuncBox
import Derived.RangeFuncLeaves
import Derived.Shelf.Abstract
import Derived.OwnWalkIn
import Derived.TacticsInMore
import Derived.LoopNIn
import Derived.LoopIn
namespace Go.Proofs.YtcbloadpffjkiaaDoor
open Go.Wk Go.RowKit Go.Shelf Go.Mk Go.Sha

theorem wideFw : Fw none = Fence.wide := rfl
theorem back_ok {κ : World} {L : List Assn} {a : Option Addr} {m c : Nat} : Ctr Tryd.prog 55 #[.slice a m c] κ L (fun v M => ∃ Bs, v = .func (.func 81) #[] #[ptr Bs 0] ∧ M = Blk Bs 22 [.slice a m c] :: L) := fun w hs => by
  refine (callsIn_wide (n := 1)).1 ((back_in Fence.wide 1 trivial rfl a m c w).mono ?_)
  rintro e w' ⟨rfl, rfl⟩
  exact ⟨_, rfl, _, ⟨w.heap.size, rfl, rfl⟩, hs.alloc⟩
/-- What Top has gathered. -/
def tg (x0 : Hs) (pre : List (Int × Hs)) : Hs := pre.foldl (fun t x => node (nrm x.2) t) x0
theorem tg_snoc (x0 : Hs) (pre : List (Int × Hs)) (x : Int × Hs) : tg x0 (pre ++ [x]) = node (nrm x.2) (tg x0 pre) := by simp [tg]
theorem tg_len {x0 : Hs} (h : x0.length = 32) (pre : List (Int × Hs)) : (tg x0 pre).length = 32 := by
  rcases List.eq_nil_or_concat pre with rfl | ⟨q, x, rfl⟩
  · exact h
  · rw [List.concat_eq_append, tg_snoc]; exact node_length _ _
theorem tg_upto (x0 : Hs) (zs : List Hs) (hz : ∀ x ∈ zs, x.length = 32) : ∀ k, k ≤ zs.length → tg x0 (upto zs k) = topV (zs.drop (zs.length - k) ++ [x0])
  | 0, _ => by rw [Nat.sub_zero, List.drop_length]; rfl
  | k + 1, h => by
    have hlt : zs.length - (k + 1) < zs.length := by omega
    have e1 : zs.drop (zs.length - (k + 1)) = zs[zs.length - (k + 1)] :: zs.drop (zs.length - k) := by
      rw [List.drop_eq_getElem_cons hlt]; congr 2; omega
    rw [upto_succ, tg_snoc, tg_upto x0 zs hz k (by omega), e1, List.cons_append, top_cons (by simp)]
    have e2 : zs.length - 1 - k = zs.length - (k + 1) := by omega
    rw [e2, List.getElem?_eq_getElem hlt, Option.getD_some, nrm_of (hz _ (List.getElem_mem _))]
theorem tg_all (x0 : Hs) (zs : List Hs) (hz : ∀ x ∈ zs, x.length = 32) : tg x0 (upto zs zs.length) = topV (zs ++ [x0]) := by
  rw [tg_upto x0 zs hz _ (Nat.le_refl _), Nat.sub_self, List.drop_zero]
theorem Sep.apart {κ w : World} {L : List Assn} {b : Nat} {T : TypeId} {cs : List Value} {R : Frag → Prop} (hs : Sep κ w (Blk b T cs :: L)) (hm : ro R ∈ L) : ∃ z : Frag, z.le (Frag.of w) ∧ R z ∧ z b = none := by
  obtain ⟨_, z, x, a, hz, _, d⟩ := hs
  obtain ⟨h1, h2, z1, q1, q2, q3, q4, q5, q6⟩ := d
  obtain ⟨h3, h4, z2, e1, e2, e3, e4, e5, e6⟩ := Pick.ro (List.mem_cons_of_mem (Blk b T cs) hm) z x ⟨h1, h2, z1, q1, q2, q3, q4, q5, q6⟩
  refine ⟨z2, e1.trans hz, e5, ?_⟩
  have hx : x b = some (.cells cs.toArray T (0, 0)) := q3 b _ q5
  cases hz2 : z2 b with
  | none => rfl
  | some oo =>
    have := e1 b _ hz2
    rcases a b with h | h
    · rw [this] at h; cases h
    · rw [hx] at h; cases h
theorem Sep.ne2 {κ w : World} {L L1 : List Assn} {b b' : Nat} {T T' : TypeId} {cs cs' : List Value} (hs : Sep κ w (Blk b T cs :: L)) (hp : Pick (Blk b' T' cs') L L1) : b ≠ b' := by
  rintro rfl
  obtain ⟨_, z, x, a, hz, _, h1, h2, z1, q1, q2, q3, q4, q5, q6⟩ := hs
  obtain ⟨h3, _, _, _, _, g, _, j, _⟩ := hp _ _ q6
  have h2b := g b _ j
  rcases q2 b with h | h
  · rw [show h1 b = _ from q5] at h; cases h
  · rw [h2b] at h; cases h
theorem Sep.hashes {κ w : World} {L : List Assn} {a : Option Addr} {m c : Nat} {zs : List Hs} {Bs b3 : Nat} {T : TypeId} {cs : List Value} (hB : Bs < w.heap.size) (hne : Bs ≠ b3) (hs : Sep κ w (Blk b3 T cs :: L)) (hm : Sl (RArr8 32) a m c zs ∈ L) : ∃ n₀, n₀ < w.heap.size ∧ n₀ ≠ b3 ∧ Hashes n₀ w (.slice a m c) zs := by
  obtain ⟨z, hz, k, hz3⟩ := Sep.apart hs hm
  obtain ⟨k1, _⟩ := id k
  subst k1
  rcases Nat.eq_zero_or_pos zs.length with h0 | h0
  · exact ⟨Bs, hB, hne, .inl ⟨⟨a, c, by rw [h0]⟩, List.eq_nil_of_length_eq_zero h0⟩⟩
  · obtain ⟨us, hrep, hul, b, o, rfl, hrow⟩ := k.elem (List.getElem?_eq_getElem h0)
    have h32 : 0 < us.length := by rw [hul]; decide
    have hcz := hrow 0 us[0] (List.getElem?_eq_getElem h32)
    unfold cellAt at hcz
    cases hzb : z b with
    | none => rw [hzb] at hcz; cases hcz
    | some oo =>
      have hb : b < w.heap.size := (Array.getElem?_eq_some_iff.1 (hz b _ hzb)).1
      refine ⟨b, hb, fun e => (by subst e; rw [hzb] at hz3; cases hz3), .inr ⟨b, o, c, rfl, rfl, fun j x hx => ?_⟩⟩
      obtain ⟨us', hrep', _, b', o', e', hrow'⟩ := k.elem hx
      cases e'
      obtain ⟨rfl, hxl⟩ := hrep'
      exact ⟨hxl, fun i u hi => Go.Wk.cell_of_row hz hrow' hi⟩
theorem Sep.tab0 {κ w : World} {L : List Assn} (hs : Sep κ w L) (hT : Tab L) : Row (Frag.of w) 0 0 (KK.map v32) := by
  obtain ⟨z, hz, b, o, e, hr⟩ := hs.get_ro hT
  cases e
  exact Go.Wk.Row.mono hz hr
theorem Sep.nz {κ w : World} {L : List Assn} {b : Nat} {T : TypeId} {cs : List Value} (hs : Sep κ w (Blk b T cs :: L)) (hT : Tab L) : b ≠ 0 := by
  rintro rfl
  obtain ⟨z, _, ⟨b, o, e, hr⟩, hz⟩ := Sep.apart hs hT
  cases e
  have hc := hr 0 _ rfl
  unfold cellAt at hc
  rw [hz] at hc; cases hc
theorem Ent.tab {A B C : Assn} {W : World} (hr : Row (fun j => W.heap[j]?) 0 0 (KK.map v32)) : Ent [A, B, C, ro (fun z => z 0 = W.heap[0]?)] [A, B, C, ro (fun z => z 0 = W.heap[0]?), At (some ⟨0, 0, none⟩) 0 (KK.map v32)] := by
  refine Ent.frame _ (Ent.frame _ (Ent.frame _ ?_))
  rintro z h ⟨h1, h2, z1, a, b, c, d, e, f⟩
  refine ⟨h1, h2, z1, a, b, c, d, e, Frag.emp, Frag.emp, z1, a, Frag.emp_disj _, Frag.emp_le _, Frag.emp_le _, ⟨0, 0, rfl, fun i u hu => ?_⟩, trivial⟩
  have := hr i u hu
  unfold cellAt at this ⊢
  rw [e]; exact this
/-- All of W, as it is. -/
def OldA (W : World) : Assn := fun _ h => ∀ (j : Nat) (o : Obj), W.heap[j]? = some o → h j = some o
theorem Sep.all (W : World) : Sep W W [OldA W] :=
  ⟨⟨rfl, rfl, rfl⟩, Frag.emp, Frag.of W, Frag.emp_disj _, Frag.emp_le _, Frag.le.refl _, Frag.of W, Frag.emp, Frag.emp, Frag.emp_le _, (Frag.emp_disj _).symm, Frag.le.refl _, Frag.emp_le _, fun _ _ h => h, trivial⟩
theorem Sep.allOld {κ W w : World} {L : List Assn} (hs : Sep κ w (OldA W :: L)) {j : Nat} {o : Obj} (hj : W.heap[j]? = some o) : w.heap[j]? = some o := by
  obtain ⟨_, z, x, _, _, c, h1, _, _, _, _, g, _, hO, _⟩ := hs
  exact c j _ (g j _ (hO j o hj))
theorem Sep.allNew {κ W w : World} {L : List Assn} {b : Nat} {T : TypeId} {cs : List Value} (hs : Sep κ w (Blk b T cs :: OldA W :: L)) : W.heap.size ≤ b := by
  obtain ⟨_, z, x, _, _, c, h1, h2, z1, e, f, g, i, j, h3, h4, z2, e', f', g', i', j', _⟩ := hs
  by_cases hlt : b < W.heap.size
  · exfalso
    have := g' b _ (j' b _ (Array.getElem?_eq_getElem hlt))
    rcases f b with h | h
    · rw [show h1 b = _ from j] at h; cases h
    · rw [this] at h; cases h
  · omega
theorem size_of_keep {W w : World} (h : ∀ (j : Nat) (o : Obj), W.heap[j]? = some o → w.heap[j]? = some o) : W.heap.size ≤ w.heap.size := by
  rcases Nat.eq_zero_or_pos W.heap.size with h0 | h0
  · omega
  · have := (Array.getElem?_eq_some_iff.1 (h (W.heap.size - 1) _ (Array.getElem?_eq_getElem (by omega)))).1; omega
theorem old_below {w W : World} {b3 : Nat} {o' : Obj} (h : Below w.heap.size (w.putObj b3 o') W) {j : Nat} {o : Obj} (hne : j ≠ b3) (hj : w.heap[j]? = some o) : W.heap[j]? = some o := by
  have hlt := (Array.getElem?_eq_some_iff.1 hj).1
  rw [h.block j hlt, World.putObj_heap_other hne]; exact hj
set_option maxRecDepth 100000 in
set_option maxHeartbeats 2000000 in
theorem top_ok {κ : World} {L : List Assn} {a : Option Addr} {m c : Nat} {f : List Hs} {n : Int} (hm : Sl (RArr8 32) a m c f ∈ L) (hT : Tab L) (hb : f.length ≤ 100000) : Ctr Tryd.prog 23 #[.agg #[vI n, .slice a m c]] κ L (fun v M => v = .agg ((topV f).map v8).toArray ∧ M = L) := by
  refine Ctr.sl hm fun hn hc hc63 => ?_
  refine Ctr.fact (fun w hs => Sep.slArr hs hm) fun h32 => ?_
  refine WG.enter (vs := [.agg #[vI n, .slice a m c]]) (k := 33) 5 Tryd.func23 rfl rfl rfl ?_
  unfold Tab at hT
  refine WG.seq ?_
  refine WG.region ?_
  refine WL.eff (fun _ h => by cases h) (Wanted.free rfl) (E.box [vI n, .slice a m c] rfl rfl rfl) rfl ?_
  rintro _ _ ⟨b1, rfl, rfl⟩
  refine WL.eff (fun _ h => by cases h) (Wanted.free rfl) (E.alloc rfl ze25) rfl ?_
  rintro _ _ ⟨b2, rfl, rfl⟩
  refine WL.then ?_
  refine WG.seq ?_
  refine WG.seq ?_
  refine WG.region ?_
  refine WL.val (fun _ h => by cases h) (Wanted.free rfl) (V.fieldAddr rfl rfl fo39_1) rfl ?_
  refine WL.val (fun _ h => by cases h) (Wanted.free rfl) (V.load rfl on22 rfl pickX rfl) rfl ?_
  refine WL.val (fun _ h => by cases h) (Wanted.free rfl) (V.len rfl rfl el22.under rfl) rfl ?_
  refine WL.cmp (fun _ h => by cases h) (Wanted.free rfl) (V.bin rfl rfl rfl B.eql) rfl (fun hq => ?_) (fun hq => ?_)
  · refine WL.then ?_
    refine WG.cond rfl (fun _ => ?_) (fun h => by cases h)
    obtain rfl : f = [] := List.eq_nil_of_length_eq_zero (by omega)
    refine WG.seq ?_
    refine WG.region ?_
    refine WL.ent (Sl.nil (T := RArr8 32)) ?_
    refine WL.eff (fun _ h => by cases h) (Wanted.free rfl) (E.call rfl go13 rfl (root_ok (l := []) memX (by unfold Tab; repeat (first | exact List.Mem.head _ | assumption | apply List.Mem.tail)) (Nat.zero_le _))) rfl ?_
    rintro _ _ ⟨rfl, rfl⟩
    refine WL.eff (fun _ h => by cases h) (Wanted.free rfl) (E.storeWhole rfl rfl rfl (by rw [List.length_map]; exact (root_len (fun _ h => by cases h))) sz25 pickX (one8 _) (by first | rfl | (rw [List.length_replicate]))) rfl ?_
    rintro _ _ rfl
    refine WL.then ?_
    refine WG.ret fun a w hd he hs => ?_
    exact ret_mark0 (Ret.r1 Tryd.func23 rfl (.agg rfl ag25 pickX (take8 (root_len (fun _ h => by cases h))) (by rw [List.length_map]; exact (root_len (fun _ h => by cases h))))) Tryd.func23 ⟨by rw [root_nil]; rfl, rfl⟩ (by repeat (first | exact Ent.refl _ | (apply Ent.cons; (· repeat (first | exact Pick.here | (refine Pick.sl ?_; (· repeat (first | exact List.Mem.head _ | assumption | apply List.Mem.tail))) | apply Pick.there))) | (refine Ent.trans (Ent.drop _ _) ?_))) a w hd he hs
  refine WL.then ?_
  refine WG.cond rfl (fun h => by cases h) (fun _ => ?_)
  refine WG.skip fun a₁ w₁ hd₁ he₁ hs₁ => ?_
  refine (?_ : WG Tryd.prog none 5 33 _ [] _ _ _ _) a₁ w₁ hd₁ he₁ hs₁
  clear he₁ hs₁ hd₁ a₁ w₁
  obtain ⟨x0, hx0⟩ : ∃ y, f[m - 1]? = some y := ⟨_, List.getElem?_eq_getElem (by omega)⟩
  have h32x : x0.length = 32 := h32 x0 (List.mem_of_getElem? hx0)
  refine WG.seq ?_
  refine WG.region ?_
  refine WL.val (fun _ h => by cases h) (Wanted.free rfl) (V.fieldAddr rfl rfl fo39_1) rfl ?_
  refine WL.val (fun _ h => by cases h) (Wanted.free rfl) (V.load rfl on22 rfl pickX rfl) rfl ?_
  refine WL.val (fun _ h => by cases h) (Wanted.free rfl) (V.fieldAddr rfl rfl fo39_1) rfl ?_
  refine WL.val (fun _ h => by cases h) (Wanted.free rfl) (V.load rfl on22 rfl pickX rfl) rfl ?_
  refine WL.val (fun _ h => by cases h) (Wanted.free rfl) (V.len rfl rfl el22.under rfl) rfl ?_
  refine WL.val (fun _ h => by cases h) (Wanted.free rfl) (V.bin rfl rfl rfl (B.subI (by omega) (by omega))) rfl ?_
  refine WL.val (fun _ h => by cases h) (Wanted.free rfl) (V.indexSl (j := (m - 1)) rfl el22.slice rfl rfl memX (by first | rfl | omega) (by omega)) rfl ?_
  refine WL.val (fun _ h => by cases h) (Wanted.free rfl) (V.loadSlDt (j := m - 1) rfl ag25 rfl memX hx0) rfl ?_
  refine WL.eff (fun _ h => by cases h) (Wanted.free rfl) (E.alloc rfl ze25) rfl ?_
  rintro _ _ ⟨b3, rfl, rfl⟩
  refine WL.eff (fun _ h => by cases h) (Wanted.free rfl) (E.storeWhole rfl rfl rfl (by rw [List.length_map]; exact h32x) sz25 pickX (one8 _) (by first | rfl | (rw [List.length_replicate]))) rfl ?_
  rintro _ _ rfl
  refine WL.then ?_
  refine WG.seq ?_
  refine WG.seq ?_
  refine WG.region ?_
  refine WL.val (fun _ h => by cases h) (Wanted.free rfl) (V.fieldAddr rfl rfl fo39_1) rfl ?_
  refine WL.val (fun _ h => by cases h) (Wanted.free rfl) (V.load rfl on22 rfl pickX rfl) rfl ?_
  refine WL.val (fun _ h => by cases h) (Wanted.free rfl) (V.fieldAddr rfl rfl fo39_1) rfl ?_
  refine WL.val (fun _ h => by cases h) (Wanted.free rfl) (V.load rfl on22 rfl pickX rfl) rfl ?_
  refine WL.val (fun _ h => by cases h) (Wanted.free rfl) (V.len rfl rfl el22.under rfl) rfl ?_
  refine WL.val (fun _ h => by cases h) (Wanted.free rfl) (V.bin rfl rfl rfl (B.subI (by omega) (by omega))) rfl ?_
  refine WL.eff (fun _ h => by cases h) (Wanted.free rfl) (E.slice (lo := 0) (hi := m - 1) rfl el22.slice rfl memX rfl ⟨_, _, rfl, (by omega)⟩ (by omega) (by omega)) rfl ?_
  intro _ _ hK107
  try rw [List.drop_zero] at hK107
  iterate 2 (try rw [Nat.sub_zero] at hK107)
  obtain ⟨a25, rfl, rfl⟩ := hK107
  refine WL.eff (fun _ h => by cases h) (Wanted.free rfl) (E.call rfl go55 rfl (back_ok)) rfl ?_
  rintro _ _ ⟨Bs, rfl, rfl⟩
  refine WL.then ?_
  refine WG.block fun a w hd he hs => ?_
  obtain ⟨tm, df⟩ := a
  obtain rfl : df = [] := hd
  obtain ⟨zs, hzs⟩ : ∃ zs, f.take (m - 1) = zs := ⟨_, rfl⟩
  have hzl : zs.length = m - 1 := by rw [← hzs]; simp; omega
  have hz32 : ∀ x ∈ zs, x.length = 32 := fun x hx => h32 x (by rw [← hzs] at hx; exact List.mem_of_mem_take hx)
  have hfz : zs ++ [x0] = f := by
    have hlt : m - 1 < f.length := by omega
    rw [List.getElem?_eq_getElem hlt] at hx0
    rw [← hzs, ← Option.some.inj hx0]
    exact (List.take_append_getElem hlt).trans (List.take_of_length_le (by omega))
  rw [hzs] at hs
  have hP3 := hs.ent (show Pick (Blk b3 25 (x0.map v8)) _ _ from pickX)
  have hPB := hs.ent (show Pick (Blk Bs 22 [.slice a25 (m - 1) c]) _ _ from pickX)
  have hb3 := hs.blk (show Pick (Blk b3 25 (x0.map v8)) _ _ from pickX)
  have hbB := hs.blk (show Pick (Blk Bs 22 [.slice a25 (m - 1) c]) _ _ from pickX)
  have hl3 := (Array.getElem?_eq_some_iff.1 hb3).1
  have hlB := (Array.getElem?_eq_some_iff.1 hbB).1
  have hnz := Sep.nz hP3 (by unfold Tab; repeat (first | exact List.Mem.head _ | assumption | apply List.Mem.tail))
  have hB3 : Bs ≠ b3 := Sep.ne2 hPB pickX
  have hcB : w.cell? ⟨Bs, 0, none⟩ = some (.slice a25 (m - 1) c) := by simp [World.cell?, hbB]
  obtain ⟨n₀, hn₀, hn3, hH⟩ := Sep.hashes (Bs := Bs) hlB hB3 hP3 memX
  have htab := Sep.tab0 hs (by unfold Tab; repeat (first | exact List.Mem.head _ | assumption | apply List.Mem.tail))
  refine wpIn_rangeFunc_ownH (F := Fw none) rfl (by decide) (gf := 81) (lb := #[.pointer (some ⟨Bs, 0, none⟩)]) (he.ev rfl) trivial (enters_of Tryd.func81 krX rfl)
    (back_stops (Fw none) (5 - 1) trivial rfl (by decide) Bs n₀ _ zs (by omega) w hlB hn₀ hcB hH) (fun h k => Kb.trans h k) (kb_b hn₀ hlB) (Below.refl _ _) (fun _ => rfl)
    (fun pre W => Below w.heap.size (w.putObj b3 (.cells ((tg x0 pre).map v8).toArray 25 (0, 0))) W)
    (fun _ _ _ => False) (fun pre => ownFrom_below (B := w.heap.size) (w₀ := w.putObj b3 (.cells ((tg x0 pre).map v8).toArray 25 (0, 0))) (by simp) (Nat.le_refl _) pre) (fun _ _ _ _ _ hs _ _ => hs) ?start
    (fun x a' W => a'.defers = [] ∧ ∃ b5, w.heap.size ≤ b5 ∧ Env 33 [(5, ptr b5 0), (3, ptr b3 0)] a' ∧ W.heap[b5]? = some (.cells ((nrm x.2).map v8).toArray 25 (0, 0))) ?own ?assign ?body ?done ?stop
  case start =>
    refine ⟨rfl, rfl, rfl, by simp, fun k hk => ?_⟩
    by_cases e : k = b3
    · subst e; rw [World.putObj_heap_same hl3]; exact hb3
    · rw [World.putObj_heap_other e]
  case own =>
    rintro x a' _ A B row ⟨h1, b5, h2, h3, h4⟩ hg hr
    refine ⟨h1, b5, h2, h3, (hg.block b5 (Array.getElem?_eq_some_iff.1 h4).1 fun e => ?_).trans h4⟩
    obtain ⟨_, o, ho, hoc⟩ := hr b5 e.symm
    rw [h4] at ho; cases ho; cases hoc
  case assign =>
    intro l pre x W K hI hK
    have he' : Env 33 [(28, .agg ((nrm x.2).map v8).toArray), (3, ptr b3 0)] (((⟨tm, []⟩ : Act).put (some 27) (.int .i64 x.1)).put (some 28) (.agg ((nrm x.2).map v8).toArray)) :=
      (Env.put (d := some 28) (Env.put (d := some 27) he _ rfl) _ rfl).le (by repeat (first | exact EnvLe.nil _ | refine EnvLe.cons rfl ?_))
    refine (?_ : WG Tryd.prog (some l) 3 33 W [] _ _ _ [OldA W]) _ W rfl (by simpa [Act.put] using he') (Sep.all W)
    refine WG.region ?_
    refine WL.eff (fun _ h => by cases h) (Wanted.free rfl) (E.alloc rfl ze25) rfl ?_
    rintro _ _ ⟨b5, rfl, rfl⟩
    refine WL.eff (fun _ h => by cases h) (Wanted.free rfl) (E.storeWhole rfl rfl rfl (by rw [List.length_map]; exact (nrm_len _)) sz25 pickX (one8 _) (by first | rfl | (rw [List.length_replicate]))) rfl ?_
    rintro _ _ rfl
    refine WL.nil fun a' W' hd' he'' hs' => ?_
    have hnew := Sep.allNew (hs'.ent (by repeat (first | exact Ent.refl _ | (apply Ent.cons; (· repeat (first | exact Pick.here | (refine Pick.sl ?_; (· repeat (first | exact List.Mem.head _ | assumption | apply List.Mem.tail))) | apply Pick.there))) | (refine Ent.trans (Ent.drop _ _) ?_))))
    have hall := hs'.ent (show Pick (OldA W) _ _ from pickX)
    have hkeep : ∀ (j : Nat) (o : Obj), W.heap[j]? = some o → W'.heap[j]? = some o := fun j o hj => Sep.allOld hall hj
    have hNW : w.heap.size ≤ W.heap.size := by have := hI.size; simpa [World.putObj] using this
    have hsame : ∀ j, j < W.heap.size → W'.heap[j]? = W.heap[j]? := fun j hj => by rw [Array.getElem?_eq_getElem hj]; exact hkeep j _ (Array.getElem?_eq_getElem hj)
    refine hK a' W' ⟨size_of_keep hkeep, fun k o _ hk _ => hkeep k o hk⟩ ⟨hsame _ (by omega), hsame _ (by omega)⟩ ?_ ⟨hd', b5, by omega, ?_, hs'.blk pickX⟩
    · exact hI.trans ⟨hs'.1.os, hs'.1.tape, hs'.1.output, size_of_keep hkeep, fun k hk => hsame k (by omega)⟩
    · obtain ⟨t', d'⟩ := a'
      cases hd'
      exact he''.le (by repeat (first | exact EnvLe.nil _ | refine EnvLe.cons rfl ?_))
  case body =>
    rintro l pre x a' W hl _ hI ⟨hd', b5, hb5, he', h5⟩ _
    have hW3 : W.heap[b3]? = some (.cells ((tg x0 pre).map v8).toArray 25 (0, 0)) := by rw [hI.block b3 hl3]; exact World.putObj_heap_same hl3
    have hz0 : W.heap[0]? = w.heap[0]? := by rw [hI.block 0 (by omega), World.putObj_heap_other (Ne.symm hnz)]
    have hNW : w.heap.size ≤ W.heap.size := by have := hI.size; simpa [World.putObj] using this
    have hsep := (Sep.here hnz (by omega) (by omega) hW3 h5).ent (Ent.tab (W := W) fun i u hu => by
      have := htab i u hu
      unfold cellAt at this ⊢
      simp only [hz0]; exact this)
    have he'' : Env 33 [(5, ptr b5 0), (3, ptr b3 0)] ({ a' with defers := [] } : Act) := by
      obtain ⟨t', d'⟩ := a'
      cases hd'
      exact he'
    refine (?_ : WG Tryd.prog (some l) 3 33 W [] _ _ _ _) a' W hd' he'' hsep
    refine WG.block ?_
    refine WG.region ?_
    refine WL.val (fun _ h => by cases h) (Wanted.free rfl) (V.loadAgg rfl ag25 rfl pickX (take8 (nrm_len x.2)) (by rw [List.length_map]; exact nrm_len _)) rfl ?_
    refine WL.val (fun _ h => by cases h) (Wanted.free rfl) (V.loadAgg rfl ag25 rfl pickX (take8 (tg_len h32x pre)) (by rw [List.length_map]; exact tg_len h32x pre)) rfl ?_
    refine WL.eff (fun _ h => by cases h) (Wanted.free rfl) (E.call rfl go47 rfl (node_ok (nrm_len x.2) (tg_len h32x pre) (by unfold Tab; repeat (first | exact List.Mem.head _ | assumption | apply List.Mem.tail)))) rfl ?_
    rintro _ _ ⟨rfl, rfl⟩
    refine WL.eff (fun _ h => by cases h) (Wanted.free rfl) (E.storeWhole rfl rfl rfl (by rw [List.length_map]; exact (node_length _ _)) sz25 pickX (one8 _) (by rw [List.length_map]; exact tg_len h32x pre)) rfl ?_
    rintro _ _ rfl
    refine WL.nil fun a'' W' _ _ hs' => ?_
    have hO := hs'.ent (show Pick (OldX W b3 b5) _ _ from pickX)
    have hZ := hs'.ent (show Pick (ro (fun z => z 0 = W.heap[0]?)) _ _ from Pick.ro memX)
    have hb3' := hs'.blk (show Pick (Blk b3 25 ((node (nrm x.2) (tg x0 pre)).map v8)) _ _ from pickX)
    have hb5' := hs'.blk (show Pick (Blk b5 25 ((nrm x.2).map v8)) _ _ from pickX)
    have hkeep : ∀ (j : Nat) (o : Obj), j ≠ b3 → W.heap[j]? = some o → W'.heap[j]? = some o := fun j o h3 hj => by
      by_cases e5 : j = b5
      · subst e5; rw [h5] at hj; cases hj; exact hb5'
      · by_cases e0 : j = 0
        · subst e0; exact Sep.zero hZ hj
        · exact Sep.old hO h3 e5 e0 hj
    have hsame : ∀ j, j ≠ b3 → j < W.heap.size → W'.heap[j]? = W.heap[j]? := fun j h3 hj => by rw [Array.getElem?_eq_getElem hj]; exact hkeep j _ h3 (Array.getElem?_eq_getElem hj)
    have hsz : W.heap.size ≤ W'.heap.size := by
      rcases Nat.lt_or_ge W'.heap.size W.heap.size with hlt | hge
      · exfalso
        have h1 := (Array.getElem?_eq_some_iff.1 hb3').1
        by_cases e : W.heap.size - 1 = b3
        · omega
        · have := (Array.getElem?_eq_some_iff.1 (hkeep (W.heap.size - 1) _ e (Array.getElem?_eq_getElem (by omega)))).1; omega
      · exact hge
    refine ⟨⟨hsz, fun k o hk hko _ => hkeep k o (by omega) hko⟩, ⟨hsame _ hn3 (by omega), hsame _ hB3 (by omega)⟩, ?_⟩
    refine ⟨hs'.1.os.trans hI.os, hs'.1.tape.trans hI.tape, hs'.1.output.trans hI.output, by simp [World.putObj]; omega, fun k hk => ?_⟩
    by_cases e : k = b3
    · subst e; rw [World.putObj_heap_same hl3, tg_snoc]; exact hb3'
    · rw [World.putObj_heap_other e, hsame k e (by omega), hI.block k hk, World.putObj_heap_other e]
  case done =>
    rintro D xs W hD rfl hI hdef
    have hsD := Sep.turnD hP3 hl3 hI hD hdef
    refine (?_ : WG Tryd.prog none 5 33 κ [{ target := .collected D, args := #[] }] _ _ _ _) _ W rfl he hsD
    rw [tg_all x0 zs hz32, hfz]
    have htl : (topV f).length = 32 := by rw [← hfz, ← tg_all x0 zs hz32]; exact tg_len h32x _
    refine WG.seq ?_
    refine WG.region ?_
    refine WL.val (fun _ h => by cases h) (Wanted.free rfl) (V.loadAgg rfl ag25 rfl pickX (take8 htl) (by rw [List.length_map]; exact htl)) rfl ?_
    refine WL.eff (fun _ h => by cases h) (Wanted.free rfl) (E.storeWhole rfl rfl rfl (by rw [List.length_map]; exact htl) sz25 pickX (one8 _) (by first | rfl | (rw [List.length_replicate]))) rfl ?_
    rintro _ _ rfl
    refine WL.then ?_
    refine WG.ret fun a w hd he hs => ?_
    have hs1 := hs.ent (show Pick (ObjO D (.deferred (some []))) _ _ from pickX)
    refine ret_mark1 (D := D) ?_ Tryd.func23 ⟨rfl, rfl⟩ ?_ a w hd he hs1
    · exact Ret.r1 Tryd.func23 rfl (.agg rfl ag25 pickX (take8 htl) (by rw [List.length_map]; exact htl))
    · exact entX
  case stop =>
    rintro D c pre W _ _ h _
    exact h.elim

end Go.Proofs.YtcbloadpffjkiaaDoor
