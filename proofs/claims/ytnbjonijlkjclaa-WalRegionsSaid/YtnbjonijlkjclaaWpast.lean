/- A log with its past; an act. -/
import Derived.Test.YtnbjonijlkjclaaLives
import Derived.Test.YtnbjonijlkjclaaHist
import Derived.Test.YtnbjonijlkjclaaSyncs
import Derived.Test.YtnbjonijlkjclaaReset
namespace Go.Proofs.Ytnbjonijlkjclaa
open Go.Wk Go.Wl Go.Dsk

@[reducible] def pc (lb db : Nat) (g : Lg) (rst : Bool) (r : Value) : List Value := [ptr db 0, ptr lb 0, vI g.n, r, vI g.synced, vB rst]
/-- A log with its past at block b. -/
def Past (b lb db : Nat) (g : Lg) (rst : Bool) : Assn := Exp (fun (_ : Tri) => True) fun x => [Blk b 51 (pc lb db g rst (.slice x.1 x.2.1 x.2.2)), Buf (Rep.slice R8) 35 x.1 x.2.1 x.2.2 g.recs, Lgm lb db g]
section
variable {P : Program} {f : FuncId} {n : Nat} {κ : World} {K : Post} {k : List Item} {ops : Array Oper} {rest : List Oper} {L L1 L' : List Assn} {al : List (Nat × Value)} {b lb db : Nat} {g : Lg} {rst : Bool}
theorem SG.openPast (hp : Pick (Past b lb db g rst) L L1) (h : ∀ xa xn xc, SG P f n κ K k al (Blk b 51 (pc lb db g rst (.slice xa xn xc)) :: Buf (Rep.slice R8) 35 xa xn xc g.recs :: Lgm lb db g :: L1)) : SG P f n κ K k al L := SG.openExp hp fun _ _ => h _ _ _
theorem RL.openPast (hp : Pick (Past b lb db g rst) L L1) (h : ∀ xa xn xc, RL P f n κ K k ops rest al (Blk b 51 (pc lb db g rst (.slice xa xn xc)) :: Buf (Rep.slice R8) 35 xa xn xc g.recs :: Lgm lb db g :: L1)) : RL P f n κ K k ops rest al L := RL.openExp hp fun _ _ => h _ _ _
theorem Past.ent {xa : Option Addr} {xn xc : Nat} (h : Ent L' (Blk b 51 (pc lb db g rst (.slice xa xn xc)) :: Buf (Rep.slice R8) 35 xa xn xc g.recs :: Lgm lb db g :: L)) : Ent L' (Past b lb db g rst :: L) :=
  h.trans (Exp.close (ι := Tri) (p := fun _ => True) (A := fun x => [Blk b 51 (pc lb db g rst (.slice x.1 x.2.1 x.2.2)), Buf (Rep.slice R8) 35 x.1 x.2.1 x.2.2 g.recs, Lgm lb db g]) (xa, xn, xc) trivial)
end
/-- What an act does. -/
structure Acted (f n : Int) (D : Dk) (T M : Nat) (g' : Lg) (D' : Dk) (r' : Bool) : Prop where
  st : Pst f n g' D' (T + 1) (M + n.toNat + 2) r'
  frm : Frm D D' f n
  len : D'.S.length = D.S.length
  calm : D.calm → D'.calm
set_option maxRecDepth 100000 in
set_option maxHeartbeats 2000000 in
theorem act_ok {κ : World} {L : List Assn} {L1 L2 : List Assn} {b lb db : Nat} {g : Lg} {D : Dk} {f n : Int} {T M : Nat} {rst : Bool} {o : ActD} {ab : Option Addr} {mb cb : Nat} (hP : Pst f n g D T M rst) (hon : D.off = false) (hT : T ≤ 1000000) (hM : M ≤ 80000) (hp : Pick (Past b lb db g rst) L L1) (hd : Pick (Dsk db D) L1 L2) (ho : o.ok) (h8 : Sl R8 ab mb cb o.b ∈ L2) :
    Ctr Try.prog 32 #[ptr b 0, .agg [vI o.kind, vI o.n, .slice ab mb cb].toArray] κ L (fun v M' => ∃ (g2 : Lg) (D2 : Dk) (r2 : Bool), Acted f n D T M g2 D2 r2 ∧ v = vB true ∧ M' = Past b lb db g2 r2 :: Dsk db D2 :: L2) := by
 refine Ctr.enter (vs := [ptr b 0, .agg [vI o.kind, vI o.n, .slice ab mb cb].toArray]) (m := 95) Try.func32 rfl rfl rfl ?_
 refine SG.ent (hp.trans (Ent.frame _ hd)) ?_
 obtain ⟨hrst, _⟩ := hP.on hon
 subst hrst
 refine SG.openPast (b := b) (lb := lb) pickX fun xa xn xc => ?_
 have hgf := hP.good.fit
 have hgn := hP.nat
 rw [hP.en] at hgf
 have hrl2 := recs_le g.recs
 refine SG.buf (T := Rep.slice R8) (a := xa) pickX fun hwl _ _ => ?_
 refine SG.seq ?_
 refine SG.region ?_
 refine RL.eff (Wanted.free rfl) (E.box [vI o.kind, vI o.n, .slice ab mb cb] rfl rfl rfl) rfl ?_
 rintro _ _ ⟨b3, rfl, rfl⟩
 refine RL.val (Wanted.free rfl) (V.assign rfl rfl) rfl ?_
 refine RL.nil ?_
 refine SG.seq ?_
 refine SG.region ?_
 refine RL.val (Wanted.free rfl) (V.assign rfl rfl) rfl ?_
 refine RL.nil ?_
 refine SG.seq ?_
 refine SG.seq ?_
 refine SG.region ?_
 refine RL.val (Wanted.free rfl) (V.fieldAddr rfl rfl fo42_0) rfl ?_
 refine RL.val (Wanted.free rfl) (V.load rfl on3 rfl pickX rfl) rfl ?_
 refine RL.nil ?_
 refine SG.join (ι := Lg × Dk × Bool × (Option Addr × Nat × Nat) × Int) (fun ⟨g2, D2, r2, ⟨xa, xn, xc⟩, e⟩ => [(0, ptr b 0), (5, vI e)]) (fun ⟨g2, D2, r2, ⟨xa, xn, xc⟩, e⟩ => Blk b 51 (pc lb db g2 r2 (.slice xa xn xc)) :: Buf (Rep.slice R8) 35 xa xn xc g2.recs :: Lgm lb db g2 :: Dsk db D2 :: L2) (fun ⟨g2, D2, r2, ⟨xa, xn, xc⟩, e⟩ => Acted f n D T M g2 D2 r2 ∧ (e = 0 ∨ e = 10 ∧ D2.off = true)) ?_ (fun rest => ?_)
 ·
  rintro ⟨g2, D2, r2, ⟨xa, xn, xc⟩, e⟩ ⟨hA, he⟩
  try dsimp only
  refine SG.seq ?_
  refine SG.region ?_
  refine RL.val (Wanted.free rfl) (V.move rfl rfl) rfl ?_
  refine RL.cmp (Wanted.free rfl) (V.bin rfl rfl rfl B.eql) rfl (fun h7 => ?_) (fun h7 => ?_)
  ·
   refine RL.val (Wanted.free rfl) (V.move rfl rfl) rfl ?_
   refine RL.skip (Wanted.no rfl rfl rfl rfl rfl) rfl ?_
   refine RL.skip (Wanted.no rfl rfl rfl rfl rfl) rfl ?_
   refine RL.skip (Wanted.no rfl rfl rfl rfl rfl) rfl ?_
   refine RL.skip (Wanted.un rfl rfl rfl) rfl ?_
   refine RL.skip (Wanted.un rfl rfl rfl) rfl ?_
   refine RL.skip (Wanted.un rfl rfl rfl) rfl ?_
   refine RL.skip (Wanted.un rfl rfl rfl) rfl ?_
   refine RL.skip (Wanted.un rfl rfl rfl) rfl ?_
   refine RL.skip (Wanted.un rfl rfl rfl) rfl ?_
   refine RL.skip (Wanted.no rfl rfl rfl rfl rfl) rfl ?_
   refine RL.val (Wanted.free rfl) (V.pick_true rfl rfl rfl) rfl ?_
   refine RL.val (Wanted.free rfl) (V.assign rfl rfl) rfl ?_
   refine RL.nil ?_
   refine SG.retE (Ret.r1 Try.func32 rfl (.tmp rfl)) ?_ ⟨_, _, _, hA, rfl, rfl⟩
   refine Past.ent (xa := xa) (xn := xn) (xc := xc) ?_
   exact entX
  ·
   obtain ⟨he1, he2⟩ : e = 10 ∧ D2.off = true := by
      rcases he with h | h
      ·
       exact absurd h h7
      ·
       exact h
   refine RL.val (Wanted.free rfl) (V.move rfl rfl) rfl ?_
   refine RL.val (Wanted.yes rfl rfl rfl rfl) (V.move rfl rfl) rfl ?_
   refine RL.cmpT (Wanted.yes rfl rfl rfl rfl) (V.bin rfl rfl rfl B.eql) rfl he1 ?_
   refine RL.val (Wanted.yes rfl rfl rfl rfl) (V.move rfl rfl) rfl ?_
   refine RL.val (Wanted.yes rfl rfl rfl rfl) (V.move rfl rfl) rfl ?_
   refine RL.val (Wanted.yes rfl rfl rfl rfl) (V.nilCheck rfl rfl) rfl ?_
   refine RL.val (Wanted.yes rfl rfl rfl rfl) (V.fieldAddr rfl rfl fo51_0) rfl ?_
   refine RL.val (Wanted.yes rfl rfl rfl rfl) (V.load rfl on23 rfl pickX rfl) rfl ?_
   refine RL.eff (Wanted.yes rfl rfl rfl rfl) (E.call rfl go35 rfl (dOn_ok hA.st.ok (b := db) pickX)) rfl ?_
   rintro _ _ ⟨rfl, rfl⟩
   rw [he2]
   refine RL.val (Wanted.yes rfl rfl rfl rfl) (V.not rfl rfl) rfl ?_
   refine RL.val (Wanted.yes rfl rfl rfl rfl) (V.pick_true rfl rfl rfl) rfl ?_
   refine RL.val (Wanted.free rfl) (V.pick_false rfl rfl rfl) rfl ?_
   refine RL.val (Wanted.free rfl) (V.assign rfl rfl) rfl ?_
   refine RL.nil ?_
   refine SG.retE (Ret.r1 Try.func32 rfl (.tmp rfl)) ?_ ⟨_, _, _, hA, rfl, rfl⟩
   refine Past.ent (xa := xa) (xn := xn) (xc := xc) ?_
   exact entX
 ·
  refine SG.block ?_
  refine SG.seq ?_
  refine SG.seq ?_
  refine SG.region ?_
  refine RL.cmp (Wanted.free rfl) (V.bin rfl rfl rfl B.eql) rfl (fun h19 => ?_) (fun h19 => ?_)
  ·
   refine RL.val (Wanted.free rfl) (V.assign rfl rfl) rfl ?_
   refine RL.nil ?_
   refine SG.cond_true rfl ?_
   refine SG.skip ?_
   refine SG.cond_true rfl ?_
   refine SG.seq ?_
   refine SG.region ?_
   refine RL.val (Wanted.free rfl) (V.loadAgg (us := [vI o.kind, vI o.n, .slice ab mb cb]) rfl ag42 rfl pickX rfl rfl) rfl ?_
   refine RL.eff (Wanted.free rfl) (E.call rfl go19 rfl (record_ok (o := o) (most := 150) ho (ab := ab) (mb := mb) (cb := cb) memX (by decide) (by decide))) rfl ?_
   rintro _ _ ⟨a29, c29, rec, hrl, rfl, rfl⟩
   refine RL.publish (T := R8) (a := a29) Pick.here ?_
   refine RL.val (Wanted.free rfl) (V.assign rfl rfl) rfl ?_
   refine RL.nil ?_
   refine SG.seq ?_
   refine SG.drawL 11 11 wide rfl rfl ?_
   refine RH.val 0 rfl krX krX krX krX (Wanted.free rfl) (V.move rfl rfl) rfl ?_
   refine RH.val 1 rfl krX krX krX krX (Wanted.free rfl) (V.nilCheck rfl rfl) rfl ?_
   refine RH.val 2 rfl krX krX krX krX (Wanted.free rfl) (V.fieldAddr rfl rfl fo51_2) rfl ?_
   refine RH.val 3 rfl krX krX krX krX (Wanted.free rfl) (V.load rfl on3 rfl pickX rfl) rfl ?_
   refine RH.val 4 rfl krX krX krX krX (Wanted.free rfl) (V.move rfl rfl) rfl ?_
   refine RH.val 5 rfl krX krX krX krX (Wanted.free rfl) (V.nilCheck rfl rfl) rfl ?_
   refine RH.val 6 rfl krX krX krX krX (Wanted.free rfl) (V.fieldAddr rfl rfl fo51_3) rfl ?_
   refine RH.val 7 rfl krX krX krX krX (Wanted.free rfl) (V.load rfl on39 rfl pickX rfl) rfl ?_
   refine RH.val 8 rfl krX krX krX krX (Wanted.free rfl) (V.move rfl rfl) rfl ?_
   refine RH.one (i := 9) krX ?_
   refine RHone.eff rfl (Wanted.free rfl) (E.call rfl go20 rfl (rapp_rd (l := g.recs) (n := g.n) (rec := rec) (by have := hP.en; omega) (by have := hP.en; omega) (by omega) (by first | (apply Seen.sl; (· repeat (first | exact List.Mem.head _ | assumption | apply List.Mem.tail))) | (apply Seen.buf; (· repeat (first | exact Pick.here | apply Pick.there)))) (by first | (apply Seen.sl; (· repeat (first | exact List.Mem.head _ | assumption | apply List.Mem.tail))) | (apply Seen.buf; (· repeat (first | exact Pick.here | apply Pick.there)))))) rfl ?_
   rintro _ _ ⟨rfl, rfl⟩
   refine ⟨.inr entX, ?_⟩
   rw [hP.en]
   refine RH.val 10 rfl krX krX krX krX (Wanted.free rfl) (V.assign rfl rfl) rfl ?_
   refine RH.done krX ?_
   refine SG.seq ?_
   refine SG.region ?_
   refine RL.val (Wanted.free rfl) (V.move rfl rfl) rfl ?_
   refine RL.val (Wanted.free rfl) (V.nilCheck rfl rfl) rfl ?_
   refine RL.val (Wanted.free rfl) (V.fieldAddr rfl rfl fo51_1) rfl ?_
   refine RL.val (Wanted.free rfl) (V.load rfl on31 rfl pickX rfl) rfl ?_
   refine RL.val (Wanted.free rfl) (V.move rfl rfl) rfl ?_
   refine RL.eff (Wanted.free rfl) (E.call rfl go16 rfl (lAppend_ok hP.good.ok (b := lb) pickX hP.ok pickX (rec := rec) memX)) rfl ?_
   rintro _ _ ⟨rfl, rfl⟩
   have hae : appE g D rec = (appR n g.recs rec) := by rw [app_eq hP.good hon, hP.en]
   rw [hae]
   refine RL.val (Wanted.free rfl) (V.assign rfl rfl) rfl ?_
   refine RL.nil ?_
   refine SG.seq ?_
   refine SG.seq ?_
   refine SG.region ?_
   refine RL.val (Wanted.free rfl) (V.move rfl rfl) rfl ?_
   refine RL.cmp (Wanted.free rfl) (V.bin rfl rfl rfl B.neq) rfl (fun h43 => ?_) (fun h43 => ?_)
   ·
    have hne := h43
    refine RL.nil ?_
    refine SG.cond_true rfl ?_
    refine SG.seq ?_
    have hal := appL_err (g := g) (D := D) (rec := rec) hae hne
    rw [hal]
    refine SG.region ?_
    refine RL.val (Wanted.free rfl) (V.move rfl rfl) rfl ?_
    refine RL.val (Wanted.free rfl) (V.move rfl rfl) rfl ?_
    refine RL.cmpT (Wanted.free rfl) (V.bin rfl rfl rfl B.eql) rfl rfl ?_
    refine RL.val (Wanted.free rfl) (V.assign rfl rfl) rfl ?_
    refine RL.nil ?_
    refine SG.retE (Ret.r1 Try.func32 rfl (.tmp rfl)) ?_ ⟨_, _, _, ⟨hP.mono (by omega) (by omega), Frm.refl _ _ _, rfl, fun h => h⟩, rfl, rfl⟩
    refine Past.ent (xa := xa) (xn := xn) (xc := xc) ?_
    exact entX
   ·
    have hz : (appR n g.recs rec) = 0 := by omega
    obtain ⟨ha1, hrc, hsy⟩ := hP.app (rec := rec) hon (by rw [hae]; exact hz)
    have hnn : (appL g D rec).n = g.n := by rw [ha1.en, hP.en]
    rw [hz]
    refine RL.nil ?_
    refine SG.cond_false rfl ?_
    refine SG.skip ?_
    refine SG.region ?_
    refine RL.val (Wanted.free rfl) (V.move rfl rfl) rfl ?_
    refine RL.val (Wanted.free rfl) (V.move rfl rfl) rfl ?_
    refine RL.val (Wanted.free rfl) (V.nilCheck rfl rfl) rfl ?_
    refine RL.val (Wanted.free rfl) (V.fieldAddr rfl rfl fo51_3) rfl ?_
    refine RL.val (Wanted.free rfl) (V.load rfl on39 rfl pickX rfl) rfl ?_
    refine RL.val (Wanted.free rfl) (V.move rfl rfl) rfl ?_
    refine RL.eff (Wanted.free rfl) (E.lit1 [.slice a29 rec.length c29] rfl el39.slice ze35 rfl (by decide) (by decide) rfl rfl rfl) rfl ?_
    rintro _ _ ⟨b57, rfl, rfl⟩
    refine RL.eff (Wanted.free rfl) (E.append (T := (Rep.slice R8)) rfl rfl rfl el39 el39.noInt rfl rfl pickX (Src.litSl (y := rec) pickX memX) (by first | omega | (simp; omega)) (by first | omega | (simp; omega))) rfl ?_
    intro _ _ hK54
    try rw [List.nil_append] at hK54
    try rw [Nat.zero_add] at hK54
    obtain ⟨a58, c58, rfl, rfl⟩ := hK54
    refine RL.val (Wanted.free rfl) (V.nilCheck rfl rfl) rfl ?_
    refine RL.val (Wanted.free rfl) (V.fieldAddr rfl rfl fo51_3) rfl ?_
    refine RL.eff (Wanted.free rfl) (E.store1 rfl rfl rfl rfl rfl sz39 pickX rfl) rfl ?_
    rintro _ _ rfl
    refine RL.nil ?_
    refine SG.inBlock ?_
    refine SG.weaken (rest ⟨appL g D rec, D, false, ⟨a58, xn + 1, c58⟩, 0⟩ ⟨⟨ha1.mono (by omega) (by omega), Frm.refl _ _ _, rfl, fun h => h⟩, .inl rfl⟩) ?_ ?_
    ·
     repeat (first | exact EnvLe.nil _ | refine EnvLe.cons rfl ?_)
    ·
     try dsimp only [pc]
     try rw [hrc]
     try rw [hsy]
     try rw [hnn]
     exact entX
  ·
   refine RL.val (Wanted.free rfl) (V.assign rfl rfl) rfl ?_
   refine RL.nil ?_
   refine SG.cond_false rfl ?_
   refine SG.region ?_
   refine RL.cmp (Wanted.free rfl) (V.bin rfl rfl rfl B.eql) rfl (fun h59 => ?_) (fun h59 => ?_)
   ·
    refine RL.val (Wanted.free rfl) (V.assign rfl rfl) rfl ?_
    refine RL.nil ?_
    refine SG.cond_true rfl ?_
    refine SG.seq ?_
    refine SG.region ?_
    refine RL.val (Wanted.free rfl) (V.loadAgg (us := [vI o.kind, vI o.n, .slice ab mb cb]) rfl ag42 rfl pickX rfl rfl) rfl ?_
    refine RL.eff (Wanted.free rfl) (E.call rfl go19 rfl (record_ok (o := o) (most := 150) ho (ab := ab) (mb := mb) (cb := cb) memX (by decide) (by decide))) rfl ?_
    rintro _ _ ⟨a29, c29, rec, hrl, rfl, rfl⟩
    refine RL.publish (T := R8) (a := a29) Pick.here ?_
    refine RL.val (Wanted.free rfl) (V.assign rfl rfl) rfl ?_
    refine RL.nil ?_
    refine SG.seq ?_
    refine SG.drawL 11 11 wide rfl rfl ?_
    refine RH.val 0 rfl krX krX krX krX (Wanted.free rfl) (V.move rfl rfl) rfl ?_
    refine RH.val 1 rfl krX krX krX krX (Wanted.free rfl) (V.nilCheck rfl rfl) rfl ?_
    refine RH.val 2 rfl krX krX krX krX (Wanted.free rfl) (V.fieldAddr rfl rfl fo51_2) rfl ?_
    refine RH.val 3 rfl krX krX krX krX (Wanted.free rfl) (V.load rfl on3 rfl pickX rfl) rfl ?_
    refine RH.val 4 rfl krX krX krX krX (Wanted.free rfl) (V.move rfl rfl) rfl ?_
    refine RH.val 5 rfl krX krX krX krX (Wanted.free rfl) (V.nilCheck rfl rfl) rfl ?_
    refine RH.val 6 rfl krX krX krX krX (Wanted.free rfl) (V.fieldAddr rfl rfl fo51_3) rfl ?_
    refine RH.val 7 rfl krX krX krX krX (Wanted.free rfl) (V.load rfl on39 rfl pickX rfl) rfl ?_
    refine RH.val 8 rfl krX krX krX krX (Wanted.free rfl) (V.move rfl rfl) rfl ?_
    refine RH.one (i := 9) krX ?_
    refine RHone.eff rfl (Wanted.free rfl) (E.call rfl go20 rfl (rapp_rd (l := g.recs) (n := g.n) (rec := rec) (by have := hP.en; omega) (by have := hP.en; omega) (by omega) (by first | (apply Seen.sl; (· repeat (first | exact List.Mem.head _ | assumption | apply List.Mem.tail))) | (apply Seen.buf; (· repeat (first | exact Pick.here | apply Pick.there)))) (by first | (apply Seen.sl; (· repeat (first | exact List.Mem.head _ | assumption | apply List.Mem.tail))) | (apply Seen.buf; (· repeat (first | exact Pick.here | apply Pick.there)))))) rfl ?_
    rintro _ _ ⟨rfl, rfl⟩
    refine ⟨.inr entX, ?_⟩
    rw [hP.en]
    refine RH.val 10 rfl krX krX krX krX (Wanted.free rfl) (V.assign rfl rfl) rfl ?_
    refine RH.done krX ?_
    refine SG.seq ?_
    refine SG.region ?_
    refine RL.val (Wanted.free rfl) (V.move rfl rfl) rfl ?_
    refine RL.val (Wanted.free rfl) (V.nilCheck rfl rfl) rfl ?_
    refine RL.val (Wanted.free rfl) (V.fieldAddr rfl rfl fo51_1) rfl ?_
    refine RL.val (Wanted.free rfl) (V.load rfl on31 rfl pickX rfl) rfl ?_
    refine RL.val (Wanted.free rfl) (V.move rfl rfl) rfl ?_
    refine RL.eff (Wanted.free rfl) (E.call rfl go16 rfl (lAppend_ok hP.good.ok (b := lb) pickX hP.ok pickX (rec := rec) memX)) rfl ?_
    rintro _ _ ⟨rfl, rfl⟩
    have hae : appE g D rec = (appR n g.recs rec) := by rw [app_eq hP.good hon, hP.en]
    rw [hae]
    refine RL.val (Wanted.free rfl) (V.assign rfl rfl) rfl ?_
    refine RL.nil ?_
    refine SG.seq ?_
    refine SG.seq ?_
    refine SG.region ?_
    refine RL.val (Wanted.free rfl) (V.move rfl rfl) rfl ?_
    refine RL.cmp (Wanted.free rfl) (V.bin rfl rfl rfl B.neq) rfl (fun h83 => ?_) (fun h83 => ?_)
    ·
     have hne := h83
     refine RL.nil ?_
     refine SG.cond_true rfl ?_
     refine SG.seq ?_
     have hal := appL_err (g := g) (D := D) (rec := rec) hae hne
     rw [hal]
     refine SG.region ?_
     refine RL.val (Wanted.free rfl) (V.move rfl rfl) rfl ?_
     refine RL.val (Wanted.free rfl) (V.move rfl rfl) rfl ?_
     refine RL.cmpT (Wanted.free rfl) (V.bin rfl rfl rfl B.eql) rfl rfl ?_
     refine RL.val (Wanted.free rfl) (V.assign rfl rfl) rfl ?_
     refine RL.nil ?_
     refine SG.retE (Ret.r1 Try.func32 rfl (.tmp rfl)) ?_ ⟨_, _, _, ⟨hP.mono (by omega) (by omega), Frm.refl _ _ _, rfl, fun h => h⟩, rfl, rfl⟩
     refine Past.ent (xa := xa) (xn := xn) (xc := xc) ?_
     exact entX
    ·
     have hz : (appR n g.recs rec) = 0 := by omega
     obtain ⟨ha1, hrc, hsy⟩ := hP.app (rec := rec) hon (by rw [hae]; exact hz)
     have hnn : (appL g D rec).n = g.n := by rw [ha1.en, hP.en]
     rw [hz]
     refine RL.nil ?_
     refine SG.cond_false rfl ?_
     refine SG.skip ?_
     refine SG.region ?_
     refine RL.val (Wanted.free rfl) (V.move rfl rfl) rfl ?_
     refine RL.val (Wanted.free rfl) (V.move rfl rfl) rfl ?_
     refine RL.val (Wanted.free rfl) (V.nilCheck rfl rfl) rfl ?_
     refine RL.val (Wanted.free rfl) (V.fieldAddr rfl rfl fo51_3) rfl ?_
     refine RL.val (Wanted.free rfl) (V.load rfl on39 rfl pickX rfl) rfl ?_
     refine RL.val (Wanted.free rfl) (V.move rfl rfl) rfl ?_
     refine RL.eff (Wanted.free rfl) (E.lit1 [.slice a29 rec.length c29] rfl el39.slice ze35 rfl (by decide) (by decide) rfl rfl rfl) rfl ?_
     rintro _ _ ⟨b57, rfl, rfl⟩
     refine RL.eff (Wanted.free rfl) (E.append (T := (Rep.slice R8)) rfl rfl rfl el39 el39.noInt rfl rfl pickX (Src.litSl (y := rec) pickX memX) (by first | omega | (simp; omega)) (by first | omega | (simp; omega))) rfl ?_
     intro _ _ hK94
     try rw [List.nil_append] at hK94
     try rw [Nat.zero_add] at hK94
     obtain ⟨a58, c58, rfl, rfl⟩ := hK94
     refine RL.val (Wanted.free rfl) (V.nilCheck rfl rfl) rfl ?_
     refine RL.val (Wanted.free rfl) (V.fieldAddr rfl rfl fo51_3) rfl ?_
     refine RL.eff (Wanted.free rfl) (E.store1 rfl rfl rfl rfl rfl sz39 pickX rfl) rfl ?_
     rintro _ _ rfl
     refine RL.nil ?_
     refine SG.inBlock ?_
     refine SG.weaken (rest ⟨appL g D rec, D, false, ⟨a58, xn + 1, c58⟩, 0⟩ ⟨⟨ha1.mono (by omega) (by omega), Frm.refl _ _ _, rfl, fun h => h⟩, .inl rfl⟩) ?_ ?_
     ·
      repeat (first | exact EnvLe.nil _ | refine EnvLe.cons rfl ?_)
     ·
      try dsimp only [pc]
      try rw [hrc]
      try rw [hsy]
      try rw [hnn]
      exact entX
   ·
    refine RL.val (Wanted.free rfl) (V.assign rfl rfl) rfl ?_
    refine RL.nil ?_
    refine SG.cond_false rfl ?_
    refine SG.seq ?_
    refine SG.region ?_
    refine RL.cmp (Wanted.free rfl) (V.bin rfl rfl rfl B.eql) rfl (fun h99 => ?_) (fun h99 => ?_)
    ·
     refine RL.val (Wanted.free rfl) (V.assign rfl rfl) rfl ?_
     refine RL.nil ?_
     refine SG.cond_true rfl ?_
     refine SG.seq ?_
     obtain ⟨rr, hz1, hz2, hz3, hzc, hzr⟩ := hP.reset hon (by omega)
     have hnn : (resetL g D).n = g.n := by rw [hz1.en, hP.en]
     refine SG.region ?_
     refine RL.val (Wanted.free rfl) (V.move rfl rfl) rfl ?_
     refine RL.val (Wanted.free rfl) (V.nilCheck rfl rfl) rfl ?_
     refine RL.val (Wanted.free rfl) (V.fieldAddr rfl rfl fo51_1) rfl ?_
     refine RL.val (Wanted.free rfl) (V.load rfl on31 rfl pickX rfl) rfl ?_
     refine RL.eff (Wanted.free rfl) (E.call rfl go22 rfl (lReset_ok hP.good.ok (b := lb) pickX hP.ok (by omega) pickX)) rfl ?_
     rintro _ _ ⟨rfl, rfl⟩
     refine RL.val (Wanted.free rfl) (V.assign rfl rfl) rfl ?_
     refine RL.nil ?_
     refine SG.seq ?_
     refine SG.region ?_
     refine RL.val (Wanted.free rfl) (V.move rfl rfl) rfl ?_
     refine RL.val (Wanted.free rfl) (V.move rfl rfl) rfl ?_
     refine RL.cmp (Wanted.free rfl) (V.bin rfl rfl rfl B.neq) rfl (fun h109 => ?_) (fun h109 => ?_)
     ·
      obtain ⟨hze, hzb, hzo, hzg⟩ : putE D g.f (g.turn + 1) 0 = 10 ∧ rr = true ∧ (putD D g.f (g.turn + 1) 0).off = true ∧ resetL g D = g := by
         rcases hzr with h | h
         ·
          exact absurd h.1 h109
         ·
          exact h
      subst hzb
      rw [hzg] at hz1 ⊢
      rw [hze]
      refine RL.val (Wanted.free rfl) (V.nilCheck rfl rfl) rfl ?_
      refine RL.val (Wanted.free rfl) (V.fieldAddr rfl rfl fo51_5) rfl ?_
      refine RL.eff (Wanted.free rfl) (E.store1 rfl rfl rfl rfl rfl sz4 pickX rfl) rfl ?_
      rintro _ _ rfl
      refine RL.nil ?_
      refine SG.seq ?_
      refine SG.region ?_
      refine RL.val (Wanted.free rfl) (V.move rfl rfl) rfl ?_
      refine RL.cmpF (Wanted.free rfl) (V.bin rfl rfl rfl B.eql) rfl (by simp) ?_
      refine RL.nil ?_
      refine SG.cond_false rfl ?_
      refine SG.skip ?_
      refine SG.inBlock ?_
      refine SG.weaken (rest ⟨g, putD D g.f (g.turn + 1) 0, true, ⟨xa, xn, xc⟩, 10⟩ ⟨⟨hz1.mono (by omega) (by omega), hz2, hz3, fun h => (hzc h).1⟩, .inr ⟨rfl, hzo⟩⟩) ?_ ?_
      ·
       repeat (first | exact EnvLe.nil _ | refine EnvLe.cons rfl ?_)
      ·
       try dsimp only [pc]
       try rw [hrc]
       try rw [hsy]
       try rw [hnn]
       exact entX
     ·
      obtain ⟨hze, hzb, hrc, hsy⟩ : putE D g.f (g.turn + 1) 0 = 0 ∧ rr = false ∧ (resetL g D).recs = [] ∧ (resetL g D).synced = 0 := by
         rcases hzr with h | h
         ·
          exact h
         ·
          exact absurd (by rw [h.1]; decide) h109
      subst hzb
      rw [hze]
      refine RL.val (Wanted.free rfl) (V.nilCheck rfl rfl) rfl ?_
      refine RL.val (Wanted.free rfl) (V.fieldAddr rfl rfl fo51_5) rfl ?_
      refine RL.eff (Wanted.free rfl) (E.store1 rfl rfl rfl rfl rfl sz4 pickX rfl) rfl ?_
      rintro _ _ rfl
      refine RL.nil ?_
      refine SG.seq ?_
      refine SG.region ?_
      refine RL.val (Wanted.free rfl) (V.move rfl rfl) rfl ?_
      refine RL.cmpT (Wanted.free rfl) (V.bin rfl rfl rfl B.eql) rfl rfl ?_
      refine RL.nil ?_
      refine SG.cond_true rfl ?_
      refine SG.seq ?_
      refine SG.ent (Buf.nil (T := Rep.slice R8) (e := 35)) ?_
      refine SG.region ?_
      refine RL.val (Wanted.free rfl) (V.move rfl rfl) rfl ?_
      refine RL.val (Wanted.free rfl) (V.nilCheck rfl rfl) rfl ?_
      refine RL.val (Wanted.free rfl) (V.fieldAddr rfl rfl fo51_3) rfl ?_
      refine RL.eff (Wanted.free rfl) (E.store1 rfl rfl rfl rfl rfl sz39 pickX rfl) rfl ?_
      rintro _ _ rfl
      refine RL.nil ?_
      refine SG.region ?_
      refine RL.val (Wanted.free rfl) (V.move rfl rfl) rfl ?_
      refine RL.val (Wanted.free rfl) (V.nilCheck rfl rfl) rfl ?_
      refine RL.val (Wanted.free rfl) (V.fieldAddr rfl rfl fo51_4) rfl ?_
      refine RL.eff (Wanted.free rfl) (E.store1 rfl rfl rfl rfl rfl sz3 pickX rfl) rfl ?_
      rintro _ _ rfl
      refine RL.nil ?_
      refine SG.inBlock ?_
      refine SG.weaken (rest ⟨resetL g D, putD D g.f (g.turn + 1) 0, false, ⟨none, 0, 0⟩, 0⟩ ⟨⟨hz1.mono (by omega) (by omega), hz2, hz3, fun h => (hzc h).1⟩, .inl rfl⟩) ?_ ?_
      ·
       repeat (first | exact EnvLe.nil _ | refine EnvLe.cons rfl ?_)
      ·
       try dsimp only [pc]
       try rw [hrc]
       try rw [hsy]
       try rw [hnn]
       exact entX
    ·
     refine RL.val (Wanted.free rfl) (V.assign rfl rfl) rfl ?_
     refine RL.nil ?_
     refine SG.cond_false rfl ?_
     refine SG.seq ?_
     obtain ⟨hy1, hy2, hy3, hyc, hrc, hyr⟩ := hP.sync hon (by omega)
     have hnn : (syncR g D).1.n = g.n := by rw [hy1.en, hP.en]
     refine SG.region ?_
     refine RL.val (Wanted.free rfl) (V.move rfl rfl) rfl ?_
     refine RL.val (Wanted.free rfl) (V.nilCheck rfl rfl) rfl ?_
     refine RL.val (Wanted.free rfl) (V.fieldAddr rfl rfl fo51_1) rfl ?_
     refine RL.val (Wanted.free rfl) (V.load rfl on31 rfl pickX rfl) rfl ?_
     refine RL.eff (Wanted.free rfl) (E.call rfl go21 rfl (lSync_ok hP.good.ok (b := lb) pickX hP.ok hP.m1 (by omega) pickX)) rfl ?_
     rintro _ _ ⟨rfl, rfl⟩
     refine RL.val (Wanted.free rfl) (V.assign rfl rfl) rfl ?_
     refine RL.nil ?_
     refine SG.seq ?_
     refine SG.region ?_
     refine RL.val (Wanted.free rfl) (V.move rfl rfl) rfl ?_
     refine RL.cmp (Wanted.free rfl) (V.bin rfl rfl rfl B.eql) rfl (fun h134 => ?_) (fun h134 => ?_)
     ·
      have hze := h134
      have hsy : (syncR g D).1.synced = (xn : Int) := by
         rcases hyr with h | h
         ·
          rw [h.2]; omega
         ·
          rw [h.1] at hze; cases hze
      rw [hze]
      refine RL.nil ?_
      refine SG.cond_true rfl ?_
      refine SG.region ?_
      refine RL.val (Wanted.free rfl) (V.move rfl rfl) rfl ?_
      refine RL.val (Wanted.free rfl) (V.move rfl rfl) rfl ?_
      refine RL.val (Wanted.free rfl) (V.nilCheck rfl rfl) rfl ?_
      refine RL.val (Wanted.free rfl) (V.fieldAddr rfl rfl fo51_3) rfl ?_
      refine RL.val (Wanted.free rfl) (V.load rfl on39 rfl pickX rfl) rfl ?_
      refine RL.val (Wanted.free rfl) (V.len rfl rfl el39.under rfl) rfl ?_
      refine RL.val (Wanted.free rfl) (V.nilCheck rfl rfl) rfl ?_
      refine RL.val (Wanted.free rfl) (V.fieldAddr rfl rfl fo51_4) rfl ?_
      refine RL.eff (Wanted.free rfl) (E.store1 rfl rfl rfl rfl rfl sz3 pickX rfl) rfl ?_
      rintro _ _ rfl
      refine RL.nil ?_
      refine SG.inBlock ?_
      refine SG.weaken (rest ⟨(syncR g D).1, (syncR g D).2.1, false, ⟨xa, xn, xc⟩, 0⟩ ⟨⟨hy1.mono (by omega) (by omega), hy2, hy3, fun h => (hyc h).1⟩, .inl rfl⟩) ?_ ?_
      ·
       repeat (first | exact EnvLe.nil _ | refine EnvLe.cons rfl ?_)
      ·
       try dsimp only [pc]
       try rw [hrc]
       try rw [hsy]
       try rw [hnn]
       exact entX
     ·
      obtain ⟨hze, hyo, hyg⟩ : (syncR g D).2.2 = 10 ∧ (syncR g D).2.1.off = true ∧ (syncR g D).1 = g := by
         rcases hyr with h | h
         ·
          exact absurd h.1 h134
         ·
          exact h
      have hsy : (syncR g D).1.synced = g.synced := by rw [hyg]
      rw [hze]
      refine RL.nil ?_
      refine SG.cond_false rfl ?_
      refine SG.skip ?_
      refine SG.inBlock ?_
      refine SG.weaken (rest ⟨(syncR g D).1, (syncR g D).2.1, false, ⟨xa, xn, xc⟩, 10⟩ ⟨⟨hy1.mono (by omega) (by omega), hy2, hy3, fun h => (hyc h).1⟩, .inr ⟨rfl, hyo⟩⟩) ?_ ?_
      ·
       repeat (first | exact EnvLe.nil _ | refine EnvLe.cons rfl ?_)
      ·
       try dsimp only [pc]
       try rw [hrc]
       try rw [hsy]
       try rw [hnn]
       exact entX

end Go.Proofs.Ytnbjonijlkjclaa
