/- The walk of WalSealed. -/
import Derived.Test.YtnbjonijlkjclaaDoorWbeg
import Derived.Test.YtnbjonijlkjclaaDoorSyncs
import Derived.Test.YtnbjonijlkjclaaDoorTops
import Derived.Test.YtnbjonijlkjclaaDoorReaderb
import Derived.Test.YtnbjonijlkjclaaDoorPlain3
namespace Go.Proofs.YtnbjonijlkjclaaDoor
open Go.Wk Go.Wl Go.Dsk Go.Sha Go.Wire

theorem V.bytesToSBlk {P : Program} {n : Nat} {κ : World} {al : List (Nat × Value)} {L L1 : List Assn} {o : Oper} {S D E' : TypeId} {x : Operand} {l : List UInt8} {b E m c : Nat} (ho : o.op = .convert S D x) (hS : P.underlying S = some (.slice E')) (hE : P.underlying E' = some (.int .u8)) (hD : P.underlying D = some .string) (hx : ev al x = some (.slice (some ⟨b, 0, none⟩) m c)) (hl : l.length = m) (hp : Pick (Blk b E (l.map v8)) L L1) :
    OpV P n κ al L o (vS l) := fun a' w he hs => by
  subst hl
  have hload : (loadCells ⟨b, 0, none⟩ l.length).run P w = .ok (l.map v8).toArray w := by
    have := run_loadCells_list (P := P) w ⟨b, 0, none⟩ (l.map v8) (fun j u hj => by rw [addr_add, Nat.zero_add]; exact cell_of_blk hs hp hj)
    simpa using this
  have hrun : (Conv.bytesToString (.slice (some ⟨b, 0, none⟩) l.length c)).run P w = .ok (vS l) w := by
    have h := run_bytesToString (P := P) w ⟨b, 0, none⟩ l.length c (l.map fun c => (c.toNat : Int)) (by simpa [List.map_map, Function.comp_def] using hload)
    rw [h]
    congr 2
    rw [List.foldl_map]
    have e : (fun (r : ByteArray) (c : UInt8) => r.push (UInt8.ofNat ((c.toNat : Int).toNat))) = fun r c => r.push c := by funext r c; simp
    rw [e]
    exact foldl_push l []
  simp [execOp, ho, convert, run_underlying hS, run_underlying hD, run_underlying hE, he.ev hx, hrun]
/-- A record: bytes and their digest. -/
def seal' (b : List UInt8) : List UInt8 := encText b ++ encText (sum b)
theorem seal_len {b : List UInt8} (h : b.length ≤ 60) : (seal' b).length ≤ 112 := by
  have h1 := (enc_length (UInt64.ofNat b.length)).1
  have h2 := (enc_length (UInt64.ofNat (sum b).length)).1
  have h3 := sum_length b
  unfold seal' encText
  simp only [List.length_append]; omega
theorem back_take {D : Dk} {f n : Int} {g : Lg} {rs : List (List UInt8)} (h : Back D f n g false rs) : betw rs g.synced g.recs := h.old.elim id fun h => absurd h.1 (by decide)
theorem rs_get {rs bs : List (List UInt8)} (h : rs = (bs.map seal').take rs.length) {i : Nat} {x : List UInt8} (hi : i < rs.length) (hx : bs[i]? = some x) : rs[i]? = some (seal' x) := by
  rw [h, List.getElem?_take_of_lt hi, List.getElem?_map, hx]; rfl
set_option maxRecDepth 100000 in
set_option maxHeartbeats 1000000 in
theorem few_ok {κ : World} {L : List Assn} {a : Option Addr} {m c : Nat} {l : List UInt8} {k : Nat} (hm : Sl R8 a m c l ∈ L) (hk2 : k ≤ 1000000) :
    Ctr Tryd.prog 8 #[.slice a m c, vI (k : Int)] κ L (fun v M => ∃ a' k' c', v = .slice a' k' c' ∧ M = Buf R8 5 a' k' c' (l.take k) :: L) := by
 refine Ctr.enter (vs := [.slice a m c, vI (k : Int)]) (m := 14) Tryd.func8 rfl rfl rfl ?_
 refine SG.sl hm fun hl _ _ => ?_
 refine SG.seq ?_
 refine SG.region ?_
 refine RL.val (Wanted.free rfl) (V.assign rfl rfl) rfl ?_
 refine RL.nil ?_
 refine SG.seq ?_
 refine SG.region ?_
 refine RL.val (Wanted.free rfl) (V.assign rfl rfl) rfl ?_
 refine RL.nil ?_
 refine SG.seq ?_
 refine SG.region ?_
 refine RL.val (Wanted.free rfl) (V.move rfl rfl) rfl ?_
 refine RL.val (Wanted.free rfl) (V.move rfl rfl) rfl ?_
 refine RL.val (Wanted.free rfl) (V.move rfl rfl) rfl ?_
 refine RL.val (Wanted.free rfl) (V.len rfl rfl el34.under rfl) rfl ?_
 refine RL.val (Wanted.free rfl) (V.move rfl rfl) rfl ?_
 refine RL.val (Wanted.free rfl) (V.min rfl rfl rfl rfl) rfl ?_
 refine RL.eff (Wanted.free rfl) (E.slice (lo := 0) (hi := min m k) rfl el34.slice rfl memX rfl ⟨_, _, rfl, (by first | rfl | omega)⟩ (by omega) (by omega)) rfl ?_
 intro _ _ hK9
 try rw [List.drop_zero] at hK9
 iterate 2 (try rw [Nat.sub_zero] at hK9)
 rw [show l.take (min m k) = l.take k from by rw [← hl, List.take_eq_take_iff]; omega] at hK9
 obtain ⟨a9, rfl, rfl⟩ := hK9
 refine RL.ent (Buf.nil (T := R8) (e := 5)) ?_
 refine RL.eff (Wanted.free rfl) (E.append (T := R8) rfl rfl rfl el34 el34.noInt rfl rfl pickX (Src.sl (by decide) memX) (by first | omega | (simp; omega)) (by first | omega | (simp; omega))) rfl ?_
 intro _ _ hK10
 try rw [List.nil_append] at hK10
 try rw [Nat.zero_add] at hK10
 obtain ⟨a10, c10, rfl, rfl⟩ := hK10
 refine RL.val (Wanted.free rfl) (V.assign rfl rfl) rfl ?_
 refine RL.nil ?_
 refine SG.retE (Ret.r1 Tryd.func8 rfl (.tmp rfl)) ?_ ⟨_, _, _, rfl, rfl⟩
 exact entX

set_option maxRecDepth 100000 in
set_option maxHeartbeats 1000000 in
theorem sealed_ok {κ : World} {L : List Assn} {a : Option Addr} {m c : Nat} {x : List UInt8} (hm : Sl R8 a m c x ∈ L) (hT : Tab L) (hb : x.length ≤ 60) :
    Ctr Tryd.prog 10 #[.slice a m c] κ L (fun v M => ∃ a' k' c', v = .slice a' k' c' ∧ M = Buf R8 5 a' k' c' (seal' x) :: L) := by
 refine Ctr.enter (vs := [.slice a m c]) (m := 15) Tryd.func10 rfl rfl rfl ?_
 unfold Tab at hT
 have hsl := seal_len hb
 unfold seal' at hsl
 rw [List.length_append] at hsl
 have hs32 := sum_length x
 refine SG.seq ?_
 refine SG.region ?_
 refine RL.val (Wanted.free rfl) (V.assign rfl rfl) rfl ?_
 refine RL.nil ?_
 refine SG.seq ?_
 refine SG.region ?_
 refine RL.val (Wanted.free rfl) (V.move rfl rfl) rfl ?_
 refine RL.eff (Wanted.free rfl) (E.call rfl go19 rfl (sum_ok (l := x) memX memX (by omega))) rfl ?_
 rintro _ _ ⟨rfl, hM⟩
 rw [hM]
 refine RL.eff (Wanted.free rfl) (E.alloc rfl ze51) rfl ?_
 rintro _ _ ⟨b3, rfl, rfl⟩
 refine RL.eff (Wanted.free rfl) (E.storeWhole rfl rfl rfl (by rw [List.length_map]; exact sum_length _) sz51 pickX (one8 _) (by rfl)) rfl ?_
 rintro _ _ rfl
 refine RL.nil ?_
 refine SG.seq ?_
 refine SG.region ?_
 refine RL.eff (Wanted.free rfl) (E.alloc rfl ze67) rfl ?_
 rintro _ _ ⟨b4, rfl, rfl⟩
 have hWr : Ent (Blk b4 67 [.slice none 0 0] :: Blk b3 51 ((sum x).map v8) :: L) (Wr b4 [] :: Blk b3 51 ((sum x).map v8) :: L) := Ent.trans (Ent.trans (Buf.nil (T := R8) (e := 5)) (Ent.swap _ _ _)) Wr.close
 refine RL.ent hWr ?_
 refine RL.nil ?_
 refine SG.seq ?_
 refine SG.region ?_
 refine RL.val (Wanted.free rfl) (V.move rfl rfl) rfl ?_
 refine RL.val (Wanted.free rfl) (V.bytesToS rfl el34.under ui5 us9 rfl memX) rfl ?_
 refine RL.eff (Wanted.free rfl) (E.call rfl go24 rfl (wText_ok (b := b4) x pickX (by simp; omega))) rfl ?_
 rintro _ _ ⟨rfl, rfl⟩
 rw [List.nil_append]
 refine RL.nil ?_
 refine SG.seq ?_
 refine SG.region ?_
 refine RL.val (Wanted.free rfl) (V.sliceArr rfl ar51 rfl rfl rfl rfl (by omega) (by omega)) rfl ?_
 refine RL.val (Wanted.free rfl) (V.bytesToSBlk rfl el34.under ui5 us9 rfl (sum_length _) pickX) rfl ?_
 refine RL.eff (Wanted.free rfl) (E.call rfl go24 rfl (wText_ok (b := b4) (sum x) pickX (by omega))) rfl ?_
 rintro _ _ ⟨rfl, rfl⟩
 refine RL.nil ?_
 refine SG.seq ?_
 refine SG.region ?_
 refine RL.val (Wanted.free rfl) (V.fieldAddr rfl rfl fo67_0) rfl ?_
 refine RL.eff (Wanted.free rfl) (E.call rfl go25 rfl (done_ok (b := b4) (l := encText x ++ encText (sum x)) pickX (by rw [List.length_append]; omega))) rfl ?_
 rintro _ _ ⟨a14, k14, c14, rfl, rfl⟩
 refine RL.val (Wanted.free rfl) (V.assign rfl rfl) rfl ?_
 refine RL.nil ?_
 refine SG.retE (Ret.r1 Tryd.func10 rfl (.tmp rfl)) ?_ ⟨_, _, _, rfl, rfl⟩
 exact entX

set_option maxRecDepth 100000 in
set_option maxHeartbeats 2000000 in
theorem sealed_law {κ : World} {L : List Assn} {fz : Int} {a aw at_ : Option Addr} {n0 c nw cw nt ct : Nat} {l : List (List UInt8)} {ws : List Bool} {ts : List Int} (hf : inInt fz) (hm : Sl (Rep.slice R8) a n0 c l ∈ L) (hmw : Sl RB aw nw cw ws ∈ L) (ht : Sl RI at_ nt ct ts ∈ L) (hT : Tab L) :
    Ctr Tryd.prog 3 #[.slice a n0 c, .slice aw nw cw, vI fz, .slice at_ nt ct] κ L (fun v M => v = vB true ∧ M = L) := by
 refine Ctr.enter (vs := [.slice a n0 c, .slice aw nw cw, vI fz, .slice at_ nt ct]) (m := 186) Tryd.func3 rfl rfl rfl ?_
 unfold Tab at hT
 refine SG.fact (fun w hs => Sep.slInts hs ht) fun hti => ?_
 refine SG.sl (T := Rep.slice R8) (a := a) (l := l) memX fun hl hlc hc63 => ?_
 subst hl
 refine SG.sl (T := RB) (a := aw) (l := ws) memX fun hlw hlcw hc63w => ?_
 subst hlw
 refine SG.seq ?_
 refine SG.region ?_
 refine RL.val (Wanted.free rfl) (V.assign rfl rfl) rfl ?_
 refine RL.nil ?_
 refine SG.seq ?_
 refine SG.region ?_
 refine RL.eff (Wanted.free rfl) (E.call rfl go4 rfl (begin_ok (s := 11) (by unfold inInt; decide))) rfl ?_
 rintro _ _ ⟨q, b, lb, db, g, D, hq, hP, hC, hlen, hrs, hsy, rfl, rfl⟩
 refine RL.val (Wanted.free rfl) (V.assign rfl rfl) rfl ?_
 refine RL.nil ?_
 refine SG.seq ?_
 refine SG.seq ?_
 refine SG.region ?_
 refine RL.val (Wanted.free rfl) (V.move rfl rfl) rfl ?_
 refine RL.cmpF (Wanted.free rfl) (V.eqlPtrNil rfl up25 rfl rfl) rfl (by simp) ?_
 refine RL.nil ?_
 refine SG.cond_false rfl ?_
 refine SG.skip ?_
 refine SG.seq ?_
 refine SG.region ?_
 refine RL.val (Wanted.free rfl) (V.assign rfl rfl) rfl ?_
 refine RL.nil ?_
 refine SG.seq ?_
 refine SG.region ?_
 refine RL.val (Wanted.free rfl) (V.assign rfl rfl) rfl ?_
 refine RL.nil ?_
 refine SG.seq ?_
 refine SG.openPast (b := b) (lb := lb) (g := g) (rst := false) pickX fun xa xn xc => ?_
 have hnn := hP.en
 dsimp only [pc]
 rw [hnn, hsy]
 have hfz := aroundV_bd (n := fz) (most := 60) (by omega)
 obtain ⟨fu, hfu⟩ : ∃ fu, aroundV fz 60 = fu := ⟨_, rfl⟩
 refine SG.drawN 7 7 (Blk b 30 [ptr db 0, ptr lb 0, vI ((4 + q : Nat) : Int), .slice xa xn xc, vI 0, vB false] :: L) wide rfl rfl (by repeat (first | exact Ent.refl _ | (apply Ent.cons; (· repeat (first | exact Pick.here | (refine Pick.sl ?_; (· repeat (first | exact List.Mem.head _ | assumption | apply List.Mem.tail))) | apply Pick.there))) | (refine Ent.trans (Ent.drop _ _) ?_))) ?_
 refine RH.val 0 rfl krX krX krX krX (Wanted.free rfl) (V.move rfl rfl) rfl ?_
 refine RH.val 1 rfl krX krX krX krX (Wanted.free rfl) (V.nilCheck rfl rfl) rfl ?_
 refine RH.val 2 rfl krX krX krX krX (Wanted.free rfl) (V.fieldAddr rfl rfl fo30_0) rfl ?_
 refine RH.val 3 rfl krX krX krX krX (Wanted.free rfl) (V.load rfl on27 rfl pickX rfl) rfl ?_
 refine RH.val 4 rfl krX krX krX krX (Wanted.free rfl) (V.move rfl rfl) rfl ?_
 refine RH.one (i := 5) krX ?_
 refine RHone.eff rfl (Wanted.free rfl) (E.call rfl go6 rfl (around_ok _ _ hf.1 hf.2 (by omega))) rfl ?_
 rintro _ _ ⟨rfl, rfl⟩
 refine ⟨.inr entX, ?_⟩
 rw [hfu] at hfz ⊢
 refine RH.one (i := 6) krX ?_
 refine RHone.eff rfl (Wanted.free rfl) (E.call rfl go5 rfl (dFuse_ok hP.ok (b := db) pickX fu (by omega) (by omega))) rfl ?_
 rintro _ _ ⟨rfl, rfl⟩
 refine ⟨.inr entX, ?_⟩
 refine RH.done krX ?_
 refine SG.seq ?_
 refine SG.seq ?_
 refine SG.ent (Buf.nil (T := Rep.slice R8) (e := 34)) ?_
 skip
 refine SG.region ?_
 refine RL.val (Wanted.free rfl) (V.assign rfl rfl) rfl ?_
 refine RL.nil ?_
 refine SG.join (ι := Lg × Dk × List (List UInt8) × (Option Addr × Nat × Nat)) (fun ⟨g, D, bs, ⟨wa, wn, wc⟩⟩ => [(3, .slice at_ nt ct), (9, ptr b 0), (10, .slice wa wn wc), (11, vI g.synced)]) (fun ⟨g, D, bs, ⟨wa, wn, wc⟩⟩ => Blk b 30 [ptr db 0, ptr lb 0, vI ((4 + q : Nat) : Int), .slice xa xn xc, vI 0, vB false] :: Lgm lb db g :: Dsk db D :: Buf (Rep.slice R8) 34 wa wn wc bs :: L) (fun ⟨g, D, bs, ⟨wa, wn, wc⟩⟩ => Pst 1 ((4 + q : Nat) : Int) g D 21 1000 false ∧ g.recs = bs.map seal' ∧ bs.length ≤ 12 ∧ (∀ y ∈ bs, y.length ≤ 60)) ?_ (fun rest => ?_)
 ·
  rintro ⟨g, D, bs, ⟨wa, wn, wc⟩⟩ ⟨hP, hgr, hbl, hby⟩
  try dsimp only
  refine SG.seq ?_
  have hrl : g.recs.length = bs.length := by rw [hgr, List.length_map]
  refine SG.buf (T := Rep.slice R8) (a := wa) pickX fun hwl _ _ => ?_
  refine SG.region ?_
  refine RL.val (Wanted.free rfl) (V.move rfl rfl) rfl ?_
  refine RL.val (Wanted.free rfl) (V.nilCheck rfl rfl) rfl ?_
  refine RL.val (Wanted.free rfl) (V.fieldAddr rfl rfl fo30_0) rfl ?_
  refine RL.val (Wanted.free rfl) (V.load rfl on27 rfl pickX rfl) rfl ?_
  refine RL.eff (Wanted.free rfl) (E.call rfl go5 rfl (dFuse_ok hP.ok (b := db) pickX 0 (by omega) (by omega))) rfl ?_
  rintro _ _ ⟨rfl, rfl⟩
  refine RL.nil ?_
  refine SG.seq ?_
  refine SG.drawN 12 12 (Blk b 30 [ptr db 0, ptr lb 0, vI ((4 + q : Nat) : Int), .slice xa xn xc, vI 0, vB false] :: L) wide rfl rfl (by repeat (first | exact Ent.refl _ | (apply Ent.cons; (· repeat (first | exact Pick.here | (refine Pick.sl ?_; (· repeat (first | exact List.Mem.head _ | assumption | apply List.Mem.tail))) | apply Pick.there))) | (refine Ent.trans (Ent.drop _ _) ?_))) ?_
  refine RH.val 0 rfl krX krX krX krX (Wanted.free rfl) (V.move rfl rfl) rfl ?_
  refine RH.val 1 rfl krX krX krX krX (Wanted.free rfl) (V.nilCheck rfl rfl) rfl ?_
  refine RH.val 2 rfl krX krX krX krX (Wanted.free rfl) (V.fieldAddr rfl rfl fo30_0) rfl ?_
  refine RH.val 3 rfl krX krX krX krX (Wanted.free rfl) (V.load rfl on27 rfl pickX rfl) rfl ?_
  refine RH.val 4 rfl krX krX krX krX (Wanted.free rfl) (V.move rfl rfl) rfl ?_
  refine RH.val 5 rfl krX krX krX krX (Wanted.free rfl) (V.move rfl rfl) rfl ?_
  refine RH.val 6 rfl krX krX krX krX (Wanted.free rfl) (V.nilCheck rfl rfl) rfl ?_
  refine RH.val 7 rfl krX krX krX krX (Wanted.free rfl) (V.fieldAddr rfl rfl fo30_2) rfl ?_
  refine RH.val 8 rfl krX krX krX krX (Wanted.free rfl) (V.load rfl on3 rfl pickX rfl) rfl ?_
  refine RH.val 9 rfl krX krX krX krX (Wanted.free rfl) (V.bin rfl rfl rfl (B.addI (by omega) (by omega))) rfl ?_
  refine RH.one (i := 10) krX ?_
  refine RHone.eff rfl (Wanted.free rfl) (E.call rfl go14 rfl (torn_ok (l := ts) (a := at_) memX hti (by omega) (by omega))) rfl ?_
  rintro _ _ ⟨a114, m114, c114, us, rfl, rfl⟩
  refine ⟨.inr entX, ?_⟩
  obtain ⟨rs, T2, hB, _, _, _⟩ := (hP.blow (k := 0) (by decide)).crash (by decide) us
  have hok1 := hP.ok.blow (n := 0) (by decide)
  have hok2 := hok1.restart hP.m1 us
  have hbw := back_take hB
  obtain ⟨hw1, hw2, hw3⟩ := hbw
  rw [hgr] at hw3
  have hlen2 : ((D.blow 0).restart us).S.length = D.S.length := by rw [restart_len, blow_S]
  have hlen3 := hP.len
  have hcv : checkV ((D.blow 0).restart us) 1 ((4 + q : Nat) : Int) = 0 := checkV_zero.2 ⟨by omega, by decide, by omega, by omega, rfl⟩
  have hgo := lgO_good (by decide) (by decide) (by omega) (by omega) hB.fits hB.used hB.each
  refine RH.publish (T := RTorn) (a := a114) Pick.here ?_
  refine RH.one (i := 11) krX ?_
  refine RHone.eff rfl (Wanted.free rfl) (E.call rfl go13 rfl (dRestart_ok hok1 (b := db) pickX (ts := us) memX hP.m1 (by have := hP.m1; omega))) rfl ?_
  rintro _ _ ⟨rfl, rfl⟩
  refine ⟨.inr entX, ?_⟩
  refine RH.done krX ?_
  refine SG.seq ?_
  refine SG.drawL 14 14 wide rfl rfl ?_
  refine RH.val 0 rfl krX krX krX krX (Wanted.free rfl) (V.move rfl rfl) rfl ?_
  refine RH.val 1 rfl krX krX krX krX (Wanted.free rfl) (V.nilCheck rfl rfl) rfl ?_
  refine RH.val 2 rfl krX krX krX krX (Wanted.free rfl) (V.fieldAddr rfl rfl fo30_0) rfl ?_
  refine RH.val 3 rfl krX krX krX krX (Wanted.free rfl) (V.load rfl on27 rfl pickX rfl) rfl ?_
  refine RH.val 4 rfl krX krX krX krX (Wanted.free rfl) (V.move rfl rfl) rfl ?_
  refine RH.val 5 rfl krX krX krX krX (Wanted.free rfl) (V.nilCheck rfl rfl) rfl ?_
  refine RH.val 6 rfl krX krX krX krX (Wanted.free rfl) (V.fieldAddr rfl rfl fo30_2) rfl ?_
  refine RH.val 7 rfl krX krX krX krX (Wanted.free rfl) (V.load rfl on3 rfl pickX rfl) rfl ?_
  refine RH.one (i := 8) krX ?_
  refine RHone.eff rfl (Wanted.free rfl) (E.call rfl go15 rfl (open_ok hok2 (by omega) (db := db) pickX (by unfold inInt; omega) (by unfold inInt; omega) hcv hB.fits)) rfl ?_
  rintro _ _ ⟨b125, rfl, rfl⟩
  refine ⟨.inr entX, ?_⟩
  refine RH.val 9 rfl krX krX krX krX (Wanted.free rfl) (V.move rfl rfl) rfl ?_
  refine RH.val 10 rfl krX krX krX krX (Wanted.free rfl) (V.extract rfl rfl rfl) rfl ?_
  refine RH.val 11 rfl krX krX krX krX (Wanted.free rfl) (V.extract rfl rfl rfl) rfl ?_
  refine RH.val 12 rfl krX krX krX krX (Wanted.free rfl) (V.assign rfl rfl) rfl ?_
  refine RH.val 13 rfl krX krX krX krX (Wanted.free rfl) (V.assign rfl rfl) rfl ?_
  refine RH.done krX ?_
  refine SG.seq ?_
  refine SG.seq ?_
  refine SG.region ?_
  refine RL.val (Wanted.free rfl) (V.move rfl rfl) rfl ?_
  refine RL.cmpF (Wanted.free rfl) (V.bin rfl rfl rfl B.neq) rfl (by simp) ?_
  refine RL.val (Wanted.free rfl) (V.move rfl rfl) rfl ?_
  refine RL.val (Wanted.yes rfl rfl rfl rfl) (V.move rfl rfl) rfl ?_
  refine RL.cmpF (Wanted.yes rfl rfl rfl rfl) (V.eqlPtrNil rfl up28 rfl rfl) rfl (by simp) ?_
  refine RL.val (Wanted.free rfl) (V.pick_false rfl rfl rfl) rfl ?_
  refine RL.nil ?_
  refine SG.cond_false rfl ?_
  refine SG.skip ?_
  refine SG.seq ?_
  refine SG.region ?_
  refine RL.val (Wanted.free rfl) (V.move rfl rfl) rfl ?_
  refine RL.eff (Wanted.free rfl) (E.call rfl go16 rfl (lRecs_ok hgo.ok (b := b125) pickX (fun r hr => by have := hB.each r hr; omega))) rfl ?_
  rintro _ _ ⟨a135, c135, rfl, rfl⟩
  rw [show (lgO ((D.blow 0).restart us) 1 ((4 + q : Nat) : Int) rs).recs = rs from rfl]
  refine RL.publish (T := Rep.slice R8) (a := a135) Pick.here ?_
  refine RL.val (Wanted.free rfl) (V.assign rfl rfl) rfl ?_
  refine RL.nil ?_
  refine SG.seq ?_
  refine SG.seq ?_
  refine SG.region ?_
  refine RL.val (Wanted.free rfl) (V.move rfl rfl) rfl ?_
  refine RL.val (Wanted.free rfl) (V.len rfl rfl el22.under rfl) rfl ?_
  refine RL.val (Wanted.free rfl) (V.move rfl rfl) rfl ?_
  refine RL.cmpF (Wanted.free rfl) (V.bin rfl rfl rfl B.lss) rfl (by omega) ?_
  refine RL.val (Wanted.free rfl) (V.move rfl rfl) rfl ?_
  refine RL.val (Wanted.yes rfl rfl rfl rfl) (V.move rfl rfl) rfl ?_
  refine RL.val (Wanted.yes rfl rfl rfl rfl) (V.len rfl rfl el22.under rfl) rfl ?_
  refine RL.val (Wanted.yes rfl rfl rfl rfl) (V.move rfl rfl) rfl ?_
  refine RL.val (Wanted.yes rfl rfl rfl rfl) (V.len rfl rfl el22.under rfl) rfl ?_
  refine RL.cmpF (Wanted.yes rfl rfl rfl rfl) (V.bin rfl rfl rfl B.gtr) rfl (by omega) ?_
  refine RL.val (Wanted.free rfl) (V.pick_false rfl rfl rfl) rfl ?_
  refine RL.nil ?_
  refine SG.cond_false rfl ?_
  refine SG.skip ?_
  refine SG.seq ?_
  refine SG.seq ?_
  refine SG.region ?_
  refine RL.val (Wanted.free rfl) (V.assign rfl rfl) rfl ?_
  refine RL.nil ?_
  refine SG.block ?_
  refine SG.weaken (SG.loop2 (fun m9 al M => ∃ i : Nat, i ≤ rs.length ∧ m9 = rs.length - i ∧ al = [(10, .slice wa wn wc), (17, .slice a135 rs.length c135), (18, vI i)] ∧ M = Sl (Rep.slice R8) a135 rs.length c135 rs :: Buf (Rep.slice R8) 34 wa wn wc bs :: L) (m0 := _) ⟨0, by omega, rfl, rfl, rfl⟩ ?_) ?_ ?_
  rotate_left
  ·
   repeat (first | exact EnvLe.nil _ | refine EnvLe.cons rfl ?_)
  ·
   exact entX
  rintro _ _ _ ⟨i, hi, rfl, rfl, rfl⟩ ih0
  refine SG.seq ?_
  refine SG.seq ?_
  refine SG.region ?_
  refine RL.val (Wanted.free rfl) (V.move rfl rfl) rfl ?_
  refine RL.val (Wanted.free rfl) (V.move rfl rfl) rfl ?_
  refine RL.val (Wanted.free rfl) (V.len rfl rfl el22.under rfl) rfl ?_
  refine RL.cmp (Wanted.free rfl) (V.bin rfl rfl rfl B.lss) rfl (fun h64 => ?_) (fun h64 => ?_)
  ·
   refine RL.nil ?_
   refine SG.cond_true rfl ?_
   refine SG.skip ?_
   refine SG.seq ?_
   refine SG.block ?_
   refine SG.seq ?_
   obtain ⟨x, hx⟩ : ∃ x, bs[i]? = some x := ⟨_, List.getElem?_eq_getElem (by omega)⟩
   have hrx := rs_get hw3 (i := i) (by omega) hx
   have hxl := hby x (List.mem_of_getElem? hx)
   have hsl := seal_len hxl
   have hs32 := sum_length x
   refine SG.region ?_
   refine RL.val (Wanted.free rfl) (V.move rfl rfl) rfl ?_
   refine RL.val (Wanted.free rfl) (V.move rfl rfl) rfl ?_
   refine RL.val (Wanted.free rfl) (V.indexSl (j := i) rfl el22.slice rfl rfl memX (by first | rfl | omega) (by omega)) rfl ?_
   refine RL.eff (Wanted.free rfl) (E.loadSlSl rfl on34 rfl memX hrx) rfl ?_
   rintro _ _ ⟨a156, m156, c156, rfl, rfl⟩
   refine RL.eff (Wanted.free rfl) (E.call rfl go17 rfl (newReader_sl (l := seal' x) (a := a156) memX (by omega))) rfl ?_
   rintro _ _ ⟨b157, rfl, rfl⟩
   refine RL.val (Wanted.free rfl) (V.assign rfl rfl) rfl ?_
   refine RL.nil ?_
   refine SG.seq ?_
   refine SG.seq ?_
   refine SG.region ?_
   refine RL.val (Wanted.free rfl) (V.move rfl rfl) rfl ?_
   refine RL.cmpF (Wanted.free rfl) (V.eqlPtrNil rfl up47 rfl rfl) rfl (by simp) ?_
   refine RL.nil ?_
   refine SG.cond_false rfl ?_
   refine SG.skip ?_
   refine SG.seq ?_
   refine SG.region ?_
   refine RL.val (Wanted.free rfl) (V.move rfl rfl) rfl ?_
   refine RL.eff (Wanted.free rfl) (E.call rfl go18 rfl (rText_ok 100 (b := b157) pickX (by decide) (by decide))) rfl ?_
   rintro _ _ ⟨l161, e161, s161, r161, rfl, rfl, hs161⟩
   unfold seal' at r161
   rw [rdS_enc (by omega) (by decide)] at r161
   cases r161
   rw [← List.append_nil (encText (sum x))]
   refine RL.val (Wanted.free rfl) (V.assign rfl rfl) rfl ?_
   refine RL.nil ?_
   refine SG.seq ?_
   refine SG.region ?_
   refine RL.val (Wanted.free rfl) (V.move rfl rfl) rfl ?_
   refine RL.eff (Wanted.free rfl) (E.call rfl go18 rfl (rText_ok 32 (b := b157) pickX (by decide) (by decide))) rfl ?_
   rintro _ _ ⟨l163, e163, s163, r163, rfl, rfl, hs163⟩
   rw [rdS_enc (by omega) (by decide)] at r163
   cases r163
   refine RL.val (Wanted.free rfl) (V.assign rfl rfl) rfl ?_
   refine RL.nil ?_
   refine SG.seq ?_
   refine SG.region ?_
   refine RL.val (Wanted.free rfl) (V.move rfl rfl) rfl ?_
   refine RL.eff (Wanted.free rfl) (E.sToBytes rfl us9 el34 ui5 rfl (by omega)) rfl ?_
   rintro _ _ ⟨a165, c165, rfl, rfl⟩
   refine RL.publish (T := R8) (a := a165) Pick.here ?_
   refine RL.eff (Wanted.free rfl) (E.call rfl go19 rfl (sum_ok (l := x) (a := a165) memX (by unfold Tab; repeat (first | exact List.Mem.head _ | assumption | apply List.Mem.tail)) (by omega))) rfl ?_
   rintro _ _ ⟨rfl, rfl⟩
   refine RL.eff (Wanted.free rfl) (E.alloc rfl ze51) rfl ?_
   rintro _ _ ⟨b22, rfl, rfl⟩
   refine RL.eff (Wanted.free rfl) (E.storeWhole rfl rfl rfl (by rw [List.length_map]; exact sum_length _) sz51 pickX (one8 _) (by rfl)) rfl ?_
   rintro _ _ rfl
   refine RL.nil ?_
   refine SG.seq ?_
   refine SG.region ?_
   refine RL.val (Wanted.free rfl) (V.move rfl rfl) rfl ?_
   refine RL.eff (Wanted.free rfl) (E.call rfl go20 rfl (rEnd_ok (b := b157) pickX)) rfl ?_
   rintro _ _ ⟨rfl, rfl⟩
   refine RL.cmpF (Wanted.free rfl) (V.bin rfl rfl rfl B.neq) rfl (by first | decide | simp) ?_
   refine RL.val (Wanted.free rfl) (V.move rfl rfl) rfl ?_
   refine RL.val (Wanted.yes rfl rfl rfl rfl) (V.move rfl rfl) rfl ?_
   refine RL.val (Wanted.yes rfl rfl rfl rfl) (V.move rfl rfl) rfl ?_
   refine RL.val (Wanted.yes rfl rfl rfl rfl) (V.move rfl rfl) rfl ?_
   refine RL.val (Wanted.yes rfl rfl rfl rfl) (V.indexBuf (j := i) rfl el22.slice rfl rfl pickX (by first | rfl | omega) (by omega)) rfl ?_
   refine RL.eff (Wanted.yes rfl rfl rfl rfl) (E.loadBufSl rfl on34 rfl pickX hx) rfl ?_
   rintro _ _ ⟨a175, m175, c175, rfl, rfl⟩
   refine RL.val (Wanted.yes rfl rfl rfl rfl) (V.bytesToS rfl el34.under ui5 us9 rfl memX) rfl ?_
   refine RL.cmpF (Wanted.yes rfl rfl rfl rfl) (V.bin rfl rfl rfl B.neqS) rfl (by simp) ?_
   refine RL.val (Wanted.free rfl) (V.pick_false rfl rfl rfl) rfl ?_
   refine RL.val (Wanted.free rfl) (V.move rfl rfl) rfl ?_
   refine RL.val (Wanted.yes rfl rfl rfl rfl) (V.move rfl rfl) rfl ?_
   refine RL.val (Wanted.yes rfl rfl rfl rfl) (V.sliceArr rfl ar51 rfl rfl rfl rfl (by omega) (by omega)) rfl ?_
   refine RL.val (Wanted.yes rfl rfl rfl rfl) (V.bytesToSBlk rfl el34.under ui5 us9 rfl (sum_length _) pickX) rfl ?_
   refine RL.cmpF (Wanted.yes rfl rfl rfl rfl) (V.bin rfl rfl rfl B.neqS) rfl (by simp) ?_
   refine RL.val (Wanted.free rfl) (V.pick_false rfl rfl rfl) rfl ?_
   refine RL.nil ?_
   refine SG.cond_false rfl ?_
   refine SG.skip ?_
   refine SG.inBlock ?_
   refine SG.region ?_
   refine RL.val (Wanted.free rfl) (V.move rfl rfl) rfl ?_
   refine RL.val (Wanted.free rfl) (V.bin rfl rfl rfl (B.addI (by omega) (by omega))) rfl ?_
   refine RL.val (Wanted.free rfl) (V.assign rfl rfl) rfl ?_
   refine RL.nil ?_
   refine SG.weaken (ih0 _ _ _ ?_ ⟨i + 1, by omega, rfl, rfl, rfl⟩) ?_ ?_
   ·
    omega
   ·
    repeat (first | exact EnvLe.nil _ | refine EnvLe.cons rfl ?_)
   ·
    exact entX
  ·
   refine RL.nil ?_
   refine SG.cond_false rfl ?_
   refine SG.exit rfl ?_
   refine SG.seq ?_
   refine SG.region ?_
   refine RL.eff (Wanted.free rfl) (E.call rfl go21 rfl (lives_ok)) rfl ?_
   rintro _ _ ⟨rfl, rfl⟩
   refine RL.val (Wanted.free rfl) (V.assign rfl rfl) rfl ?_
   refine RL.nil ?_
   refine SG.retE (Ret.r1 Tryd.func3 rfl (.tmp rfl)) ?_ ⟨rfl, rfl⟩
   exact entX
 ·
  refine SG.block ?_
  refine SG.weaken (SG.loop2 (fun m9 al M => ∃ (i : Nat) (g : Lg) (D : Dk) (bs : List (List UInt8)) (wa : Option Addr) (wn wc : Nat), i ≤ 12 ∧ m9 = 12 - i ∧ Pst 1 ((4 + q : Nat) : Int) g D (1 + i) (60 + 40 * i) false ∧ g.recs = bs.map seal' ∧ bs.length ≤ i ∧ (∀ y ∈ bs, y.length ≤ 60) ∧ al = [(0, .slice a l.length c), (1, .slice aw ws.length cw), (3, .slice at_ nt ct), (9, ptr b 0), (10, .slice wa wn wc), (11, vI g.synced), (12, vI i)] ∧ M = Blk b 30 [ptr db 0, ptr lb 0, vI ((4 + q : Nat) : Int), .slice xa xn xc, vI 0, vB false] :: Lgm lb db g :: Dsk db D :: Buf (Rep.slice R8) 34 wa wn wc bs :: L) (m0 := _) ⟨0, g, D.blow fu, [], none, 0, 0, by omega, rfl, (hP.blow (by omega)).mono (by omega) (by omega), hrs, Nat.le_refl _, fun _ h => (by cases h), by rw [hsy], rfl⟩ ?_) ?_ ?_
  rotate_left
  ·
   repeat (first | exact EnvLe.nil _ | refine EnvLe.cons rfl ?_)
  ·
   exact entX
  rintro _ _ _ ⟨i, g, D, bs, wa, wn, wc, hi, rfl, hP, hgr, hbl, hby, rfl, rfl⟩ ih1
  refine SG.seq ?_
  refine SG.seq ?_
  refine SG.region ?_
  refine RL.val (Wanted.free rfl) (V.move rfl rfl) rfl ?_
  refine RL.val (Wanted.free rfl) (V.move rfl rfl) rfl ?_
  refine RL.val (Wanted.free rfl) (V.len rfl rfl el22.under rfl) rfl ?_
  refine RL.cmp (Wanted.free rfl) (V.bin rfl rfl rfl B.lss) rfl (fun h104 => ?_) (fun h104 => ?_)
  ·
   refine RL.val (Wanted.free rfl) (V.move rfl rfl) rfl ?_
   refine RL.val (Wanted.yes rfl rfl rfl rfl) (V.move rfl rfl) rfl ?_
   refine RL.cmp (Wanted.yes rfl rfl rfl rfl) (V.bin rfl rfl rfl B.lss) rfl (fun h107 => ?_) (fun h107 => ?_)
   ·
    refine RL.val (Wanted.free rfl) (V.pick_true rfl rfl rfl) rfl ?_
    refine RL.val (Wanted.free rfl) (V.move rfl rfl) rfl ?_
    refine RL.val (Wanted.yes rfl rfl rfl rfl) (V.move rfl rfl) rfl ?_
    refine RL.val (Wanted.yes rfl rfl rfl rfl) (V.nilCheck rfl rfl) rfl ?_
    refine RL.val (Wanted.yes rfl rfl rfl rfl) (V.fieldAddr rfl rfl fo30_0) rfl ?_
    refine RL.val (Wanted.yes rfl rfl rfl rfl) (V.load rfl on27 rfl pickX rfl) rfl ?_
    refine RL.eff (Wanted.yes rfl rfl rfl rfl) (E.call rfl go7 rfl (dOn_ok hP.ok (b := db) pickX)) rfl ?_
    rintro _ _ ⟨rfl, rfl⟩
    refine RL.val (Wanted.free rfl) (V.pick_true rfl rfl rfl) rfl ?_
    refine RL.nil ?_
    refine SG.cond rfl (fun h114 => ?_) (fun h114 => ?_)
    ·
     have hon : D.off = false := by simpa using h114
     refine SG.skip ?_
     refine SG.seq ?_
     refine SG.block ?_
     refine SG.seq ?_
     obtain ⟨x0, hx0⟩ : ∃ x, l[i]? = some x := ⟨_, List.getElem?_eq_getElem (by omega)⟩
     have hgk := hP.good.ok
     refine SG.region ?_
     refine RL.val (Wanted.free rfl) (V.move rfl rfl) rfl ?_
     refine RL.val (Wanted.free rfl) (V.move rfl rfl) rfl ?_
     refine RL.val (Wanted.free rfl) (V.indexSl (j := i) rfl el22.slice rfl rfl memX (by first | rfl | omega) (by omega)) rfl ?_
     refine RL.eff (Wanted.free rfl) (E.loadSlSl rfl on34 rfl memX hx0) rfl ?_
     rintro _ _ ⟨a53, m53, c53, rfl, rfl⟩
     refine RL.eff (Wanted.free rfl) (E.call rfl go8 rfl (few_ok (l := x0) (k := 60) (a := a53) memX (by decide))) rfl ?_
     rintro _ _ ⟨a54, k54, c54, rfl, rfl⟩
     have hxl : (x0.take 60).length ≤ 60 := by rw [List.length_take]; omega
     generalize x0.take 60 = x at hxl ⊢
     have hsl := seal_len hxl
     refine RL.publish (T := R8) (a := a54) Pick.here ?_
     refine RL.val (Wanted.free rfl) (V.assign rfl rfl) rfl ?_
     refine RL.nil ?_
     refine SG.seq ?_
     refine SG.seq ?_
     refine SG.region ?_
     refine RL.val (Wanted.free rfl) (V.move rfl rfl) rfl ?_
     refine RL.val (Wanted.free rfl) (V.nilCheck rfl rfl) rfl ?_
     refine RL.val (Wanted.free rfl) (V.fieldAddr rfl rfl fo30_1) rfl ?_
     refine RL.val (Wanted.free rfl) (V.load rfl on28 rfl pickX rfl) rfl ?_
     refine RL.eff (Wanted.free rfl) (E.call rfl go9 rfl (lRoom_ok hgk (b := lb) pickX)) rfl ?_
     rintro _ _ ⟨rfl, rfl⟩
     refine RL.val (Wanted.free rfl) (V.move rfl rfl) rfl ?_
     refine RL.eff (Wanted.free rfl) (E.call rfl go10 rfl (sealed_ok (x := x) (a := a54) memX (hT := (by unfold Tab; repeat (first | exact List.Mem.head _ | assumption | apply List.Mem.tail))) hxl)) rfl ?_
     rintro _ _ ⟨a61, k61, c61, rfl, rfl⟩
     refine RL.buf (T := R8) (a := a61) Pick.here fun hk61 _ _ => ?_
     refine RL.val (Wanted.free rfl) (V.len rfl rfl el34.under rfl) rfl ?_
     refine RL.cmp (Wanted.free rfl) (V.bin rfl rfl rfl B.lss) rfl (fun h129 => ?_) (fun h129 => ?_)
     ·
      refine RL.nil ?_
      refine SG.cond_true rfl ?_
      refine SG.exit rfl ?_
      refine SG.weaken (rest ⟨g, D, bs, ⟨wa, wn, wc⟩⟩ ⟨hP.mono (by omega) (by omega), hgr, by omega, hby⟩) ?_ ?_
      ·
       repeat (first | exact EnvLe.nil _ | refine EnvLe.cons rfl ?_)
      ·
       exact entX
     ·
      have hae := appE_ok (g := g) (D := D) (rec := seal' x) (by omega) (by omega) hon
      refine RL.nil ?_
      refine SG.cond_false rfl ?_
      refine SG.skip ?_
      refine SG.seq ?_
      refine SG.buf (T := Rep.slice R8) (a := wa) pickX fun hwl _ _ => ?_
      have hgf := hP.good.fit
      have hrb := recs_le g.recs
      have hrl : g.recs.length = bs.length := by rw [hgr, List.length_map]
      refine SG.region ?_
      refine RL.val (Wanted.free rfl) (V.move rfl rfl) rfl ?_
      refine RL.val (Wanted.free rfl) (V.move rfl rfl) rfl ?_
      refine RL.eff (Wanted.free rfl) (E.lit1 [.slice a54 k54 c54] rfl el22.slice ze34 rfl (by decide) (by decide) rfl rfl rfl) rfl ?_
      rintro _ _ ⟨b66, rfl, rfl⟩
      refine RL.eff (Wanted.free rfl) (E.append (T := (Rep.slice R8)) rfl rfl rfl el22 el22.noInt rfl rfl pickX (Src.litSl (y := x) pickX memX) (by first | omega | (simp; omega)) (by first | omega | (simp; omega))) rfl ?_
      intro _ _ hK133
      try rw [List.nil_append] at hK133
      try rw [Nat.zero_add] at hK133
      obtain ⟨a67, c67, rfl, rfl⟩ := hK133
      refine RL.val (Wanted.free rfl) (V.assign rfl rfl) rfl ?_
      refine RL.nil ?_
      refine SG.seq ?_
      refine SG.drawN 8 8 (Blk b 30 [ptr db 0, ptr lb 0, vI ((4 + q : Nat) : Int), .slice xa xn xc, vI 0, vB false] :: L) wide rfl rfl (by repeat (first | exact Ent.refl _ | (apply Ent.cons; (· repeat (first | exact Pick.here | (refine Pick.sl ?_; (· repeat (first | exact List.Mem.head _ | assumption | apply List.Mem.tail))) | apply Pick.there))) | (refine Ent.trans (Ent.drop _ _) ?_))) ?_
      refine RH.val 0 rfl krX krX krX krX (Wanted.free rfl) (V.move rfl rfl) rfl ?_
      refine RH.val 1 rfl krX krX krX krX (Wanted.free rfl) (V.nilCheck rfl rfl) rfl ?_
      refine RH.val 2 rfl krX krX krX krX (Wanted.free rfl) (V.fieldAddr rfl rfl fo30_1) rfl ?_
      refine RH.val 3 rfl krX krX krX krX (Wanted.free rfl) (V.load rfl on28 rfl pickX rfl) rfl ?_
      refine RH.val 4 rfl krX krX krX krX (Wanted.free rfl) (V.move rfl rfl) rfl ?_
      refine RH.one (i := 5) krX ?_
      refine RHone.eff rfl (Wanted.free rfl) (E.call rfl go10 rfl (sealed_ok (x := x) (a := a54) memX (hT := (by unfold Tab; repeat (first | exact List.Mem.head _ | assumption | apply List.Mem.tail))) hxl)) rfl ?_
      rintro _ _ ⟨a73, k73, c73, rfl, rfl⟩
      refine ⟨.inr entX, ?_⟩
      refine RH.publish (T := R8) (a := a73) Pick.here ?_
      refine RH.one (i := 6) krX ?_
      refine RHone.eff rfl (Wanted.free rfl) (E.call rfl go11 rfl (lAppend_ok hgk (b := lb) pickX hP.ok pickX (rec := seal' x) memX)) rfl ?_
      rintro _ _ ⟨rfl, rfl⟩
      refine ⟨.inr entX, ?_⟩
      rw [hae]
      obtain ⟨ha1, hrc, ha3⟩ := hP.app hon hae
      obtain ⟨g1, hg1⟩ : ∃ g1, appL g D (seal' x) = g1 := ⟨_, rfl⟩
      rw [hg1] at ha1 hrc ha3 ⊢
      have hgr1 : g1.recs = (bs ++ [x]).map seal' := by rw [hrc, hgr, List.map_append]; rfl
      have hbl1 : (bs ++ [x]).length ≤ 12 := by rw [List.length_append, List.length_singleton]; omega
      have hby1 : ∀ y ∈ bs ++ [x], y.length ≤ 60 := fun y hy => by
         rcases List.mem_append.1 hy with hy | hy
         ·
          exact hby y hy
         ·
          rw [List.mem_singleton] at hy; rw [hy]; exact hxl
      obtain ⟨hy1, _, _, _, hyrc, hyr⟩ := ha1.sync hon (by omega)
      refine RH.val 7 rfl krX krX krX krX (Wanted.free rfl) (V.assign rfl rfl) rfl ?_
      refine RH.done krX ?_
      refine SG.seq ?_
      refine SG.region ?_
      refine RL.val (Wanted.free rfl) (V.move rfl rfl) rfl ?_
      refine RL.cmpT (Wanted.free rfl) (V.bin rfl rfl rfl B.eql) rfl rfl ?_
      refine RL.val (Wanted.free rfl) (V.move rfl rfl) rfl ?_
      refine RL.val (Wanted.yes rfl rfl rfl rfl) (V.move rfl rfl) rfl ?_
      refine RL.val (Wanted.yes rfl rfl rfl rfl) (V.move rfl rfl) rfl ?_
      refine RL.val (Wanted.yes rfl rfl rfl rfl) (V.len rfl rfl el23.under rfl) rfl ?_
      refine RL.cmp (Wanted.yes rfl rfl rfl rfl) (V.bin rfl rfl rfl B.lss) rfl (fun h148 => ?_) (fun h148 => ?_)
      ·
       obtain ⟨wv, hw⟩ : ∃ w, ws[i]? = some w := ⟨_, List.getElem?_eq_getElem (by omega)⟩
       refine RL.val (Wanted.free rfl) (V.pick_true rfl rfl rfl) rfl ?_
       refine RL.val (Wanted.free rfl) (V.move rfl rfl) rfl ?_
       refine RL.val (Wanted.yes rfl rfl rfl rfl) (V.move rfl rfl) rfl ?_
       refine RL.val (Wanted.yes rfl rfl rfl rfl) (V.move rfl rfl) rfl ?_
       refine RL.val (Wanted.yes rfl rfl rfl rfl) (V.indexSl (j := i) rfl el23.slice rfl rfl memX (by first | rfl | omega) (by omega)) rfl ?_
       refine RL.val (Wanted.yes rfl rfl rfl rfl) (V.loadSc rfl on4 rfl memX hw) rfl ?_
       refine RL.val (Wanted.free rfl) (V.pick_true rfl rfl rfl) rfl ?_
       refine RL.val (Wanted.free rfl) (V.move rfl rfl) rfl ?_
       refine RL.split 89 rfl (fun g155 => ?_) (fun g155 => ?_)
       ·
        refine RL.val (Wanted.yes rfl rfl rfl rfl) (V.move rfl rfl) rfl ?_
        refine RL.val (Wanted.yes rfl rfl rfl rfl) (V.nilCheck rfl rfl) rfl ?_
        refine RL.val (Wanted.yes rfl rfl rfl rfl) (V.fieldAddr rfl rfl fo30_1) rfl ?_
        refine RL.val (Wanted.yes rfl rfl rfl rfl) (V.load rfl on28 rfl pickX rfl) rfl ?_
        refine RL.eff (Wanted.yes rfl rfl rfl rfl) (E.call rfl go12 rfl (lSync_ok ha1.good.ok (b := lb) pickX ha1.ok ha1.m1 (by omega) pickX)) rfl ?_
        rintro _ _ ⟨rfl, rfl⟩
        refine RL.cmp (Wanted.yes rfl rfl rfl rfl) (V.bin rfl rfl rfl B.eql) rfl (fun h161 => ?_) (fun h161 => ?_)
        ·
         have hsy2 : (syncR g1 D).1.synced = ((wn + 1 : Nat) : Int) := by
            rcases hyr with h | h
            ·
             rw [h.2, hgr1, List.length_map, List.length_append, List.length_singleton]; omega
            ·
             rw [h161] at h; cases h.1
         refine RL.val (Wanted.free rfl) (V.pick_true rfl rfl rfl) rfl ?_
         refine RL.nil ?_
         refine SG.cond_true rfl ?_
         refine SG.region ?_
         refine RL.val (Wanted.free rfl) (V.move rfl rfl) rfl ?_
         refine RL.val (Wanted.free rfl) (V.len rfl rfl el22.under rfl) rfl ?_
         refine RL.val (Wanted.free rfl) (V.assign rfl rfl) rfl ?_
         refine RL.nil ?_
         refine SG.inBlock ?_
         refine SG.region ?_
         refine RL.val (Wanted.free rfl) (V.move rfl rfl) rfl ?_
         refine RL.val (Wanted.free rfl) (V.bin rfl rfl rfl (B.addI (by omega) (by omega))) rfl ?_
         refine RL.val (Wanted.free rfl) (V.assign rfl rfl) rfl ?_
         refine RL.nil ?_
         refine SG.weaken (ih1 _ _ _ ?_ ⟨i + 1, (syncR g1 D).1, (syncR g1 D).2.1, bs ++ [x], a67, wn + 1, c67, by omega, rfl, hy1.mono (by omega) (by omega), by rw [hyrc, hgr1], by rw [List.length_append, List.length_singleton]; omega, hby1, rfl, rfl⟩) ?_ ?_
         ·
          omega
         ·
          rw [hsy2]
          repeat (first | exact EnvLe.nil _ | refine EnvLe.cons rfl ?_)
         ·
          exact entX
        ·
         have hsy2 : (syncR g1 D).1.synced = g.synced := by
            rcases hyr with h | h
            ·
             exact absurd h.1 h161
            ·
             rw [h.2.2, ha3]
         refine RL.val (Wanted.free rfl) (V.pick_true rfl rfl rfl) rfl ?_
         refine RL.nil ?_
         refine SG.cond_false rfl ?_
         refine SG.skip ?_
         refine SG.inBlock ?_
         refine SG.region ?_
         refine RL.val (Wanted.free rfl) (V.move rfl rfl) rfl ?_
         refine RL.val (Wanted.free rfl) (V.bin rfl rfl rfl (B.addI (by omega) (by omega))) rfl ?_
         refine RL.val (Wanted.free rfl) (V.assign rfl rfl) rfl ?_
         refine RL.nil ?_
         refine SG.weaken (ih1 _ _ _ ?_ ⟨i + 1, (syncR g1 D).1, (syncR g1 D).2.1, bs ++ [x], a67, wn + 1, c67, by omega, rfl, hy1.mono (by omega) (by omega), by rw [hyrc, hgr1], by rw [List.length_append, List.length_singleton]; omega, hby1, rfl, rfl⟩) ?_ ?_
         ·
          omega
         ·
          rw [hsy2]
          repeat (first | exact EnvLe.nil _ | refine EnvLe.cons rfl ?_)
         ·
          exact entX
       ·
        refine RL.skip (Wanted.no rfl rfl rfl rfl rfl) rfl ?_
        refine RL.skip (Wanted.no rfl rfl rfl rfl rfl) rfl ?_
        refine RL.skip (Wanted.no rfl rfl rfl rfl rfl) rfl ?_
        refine RL.skip (Wanted.no rfl rfl rfl rfl rfl) rfl ?_
        refine RL.skip (Wanted.no rfl rfl rfl rfl rfl) rfl ?_
        refine RL.skip (Wanted.no rfl rfl rfl rfl rfl) rfl ?_
        refine RL.val (Wanted.free rfl) (V.pick_false rfl rfl rfl) rfl ?_
        refine RL.nil ?_
        refine SG.cond_false rfl ?_
        refine SG.skip ?_
        refine SG.inBlock ?_
        refine SG.region ?_
        refine RL.val (Wanted.free rfl) (V.move rfl rfl) rfl ?_
        refine RL.val (Wanted.free rfl) (V.bin rfl rfl rfl (B.addI (by omega) (by omega))) rfl ?_
        refine RL.val (Wanted.free rfl) (V.assign rfl rfl) rfl ?_
        refine RL.nil ?_
        refine SG.weaken (ih1 _ _ _ ?_ ⟨i + 1, g1, D, bs ++ [x], a67, wn + 1, c67, by omega, rfl, ha1.mono (by omega) (by omega), hgr1, by rw [List.length_append, List.length_singleton]; omega, hby1, rfl, rfl⟩) ?_ ?_
        ·
         omega
        ·
         rw [ha3]
         repeat (first | exact EnvLe.nil _ | refine EnvLe.cons rfl ?_)
        ·
         exact entX
      ·
       refine RL.val (Wanted.free rfl) (V.pick_true rfl rfl rfl) rfl ?_
       refine RL.val (Wanted.free rfl) (V.move rfl rfl) rfl ?_
       refine RL.skip (Wanted.no rfl rfl rfl rfl rfl) rfl ?_
       refine RL.skip (Wanted.no rfl rfl rfl rfl rfl) rfl ?_
       refine RL.skip (Wanted.no rfl rfl rfl rfl rfl) rfl ?_
       refine RL.skip (Wanted.no rfl rfl rfl rfl rfl) rfl ?_
       refine RL.val (Wanted.free rfl) (V.pick_false rfl rfl rfl) rfl ?_
       refine RL.val (Wanted.free rfl) (V.move rfl rfl) rfl ?_
       refine RL.skip (Wanted.no rfl rfl rfl rfl rfl) rfl ?_
       refine RL.skip (Wanted.no rfl rfl rfl rfl rfl) rfl ?_
       refine RL.skip (Wanted.no rfl rfl rfl rfl rfl) rfl ?_
       refine RL.skip (Wanted.no rfl rfl rfl rfl rfl) rfl ?_
       refine RL.skip (Wanted.no rfl rfl rfl rfl rfl) rfl ?_
       refine RL.skip (Wanted.no rfl rfl rfl rfl rfl) rfl ?_
       refine RL.val (Wanted.free rfl) (V.pick_false rfl rfl rfl) rfl ?_
       refine RL.nil ?_
       refine SG.cond_false rfl ?_
       refine SG.skip ?_
       refine SG.inBlock ?_
       refine SG.region ?_
       refine RL.val (Wanted.free rfl) (V.move rfl rfl) rfl ?_
       refine RL.val (Wanted.free rfl) (V.bin rfl rfl rfl (B.addI (by omega) (by omega))) rfl ?_
       refine RL.val (Wanted.free rfl) (V.assign rfl rfl) rfl ?_
       refine RL.nil ?_
       refine SG.weaken (ih1 _ _ _ ?_ ⟨i + 1, g1, D, bs ++ [x], a67, wn + 1, c67, by omega, rfl, ha1.mono (by omega) (by omega), hgr1, by rw [List.length_append, List.length_singleton]; omega, hby1, rfl, rfl⟩) ?_ ?_
       ·
        omega
       ·
        rw [ha3]
        repeat (first | exact EnvLe.nil _ | refine EnvLe.cons rfl ?_)
       ·
        exact entX
    ·
     refine SG.exit rfl ?_
     refine SG.weaken (rest ⟨g, D, bs, ⟨wa, wn, wc⟩⟩ ⟨hP.mono (by omega) (by omega), hgr, by omega, hby⟩) ?_ ?_
     ·
      repeat (first | exact EnvLe.nil _ | refine EnvLe.cons rfl ?_)
     ·
      exact entX
   ·
    refine RL.val (Wanted.free rfl) (V.pick_true rfl rfl rfl) rfl ?_
    refine RL.val (Wanted.free rfl) (V.move rfl rfl) rfl ?_
    refine RL.skip (Wanted.no rfl rfl rfl rfl rfl) rfl ?_
    refine RL.skip (Wanted.no rfl rfl rfl rfl rfl) rfl ?_
    refine RL.skip (Wanted.no rfl rfl rfl rfl rfl) rfl ?_
    refine RL.skip (Wanted.no rfl rfl rfl rfl rfl) rfl ?_
    refine RL.skip (Wanted.no rfl rfl rfl rfl rfl) rfl ?_
    refine RL.val (Wanted.free rfl) (V.pick_false rfl rfl rfl) rfl ?_
    refine RL.nil ?_
    refine SG.cond_false rfl ?_
    refine SG.exit rfl ?_
    refine SG.weaken (rest ⟨g, D, bs, ⟨wa, wn, wc⟩⟩ ⟨hP.mono (by omega) (by omega), hgr, by omega, hby⟩) ?_ ?_
    ·
     repeat (first | exact EnvLe.nil _ | refine EnvLe.cons rfl ?_)
    ·
     exact entX
  ·
   refine RL.val (Wanted.free rfl) (V.move rfl rfl) rfl ?_
   refine RL.skip (Wanted.no rfl rfl rfl rfl rfl) rfl ?_
   refine RL.skip (Wanted.no rfl rfl rfl rfl rfl) rfl ?_
   refine RL.val (Wanted.free rfl) (V.pick_false rfl rfl rfl) rfl ?_
   refine RL.val (Wanted.free rfl) (V.move rfl rfl) rfl ?_
   refine RL.skip (Wanted.no rfl rfl rfl rfl rfl) rfl ?_
   refine RL.skip (Wanted.no rfl rfl rfl rfl rfl) rfl ?_
   refine RL.skip (Wanted.no rfl rfl rfl rfl rfl) rfl ?_
   refine RL.skip (Wanted.no rfl rfl rfl rfl rfl) rfl ?_
   refine RL.skip (Wanted.no rfl rfl rfl rfl rfl) rfl ?_
   refine RL.val (Wanted.free rfl) (V.pick_false rfl rfl rfl) rfl ?_
   refine RL.nil ?_
   refine SG.cond_false rfl ?_
   refine SG.exit rfl ?_
   refine SG.weaken (rest ⟨g, D, bs, ⟨wa, wn, wc⟩⟩ ⟨hP.mono (by omega) (by omega), hgr, by omega, hby⟩) ?_ ?_
   ·
    repeat (first | exact EnvLe.nil _ | refine EnvLe.cons rfl ?_)
   ·
    exact entX

end Go.Proofs.YtnbjonijlkjclaaDoor
