/- What the laws share. -/
import Derived.Test.YtcbloadpffjkiaaDoorZApps
import Derived.Test.YtcbloadpffjkiaaDoorZRecsw
import Derived.Test.YtcbloadpffjkiaaDoorZOpensw
import Derived.Test.YtcbloadpffjkiaaDoorZMsmall
namespace Go.Proofs.YtcbloadpffjkiaaDoor
open Go.Wk Go.Wl Go.Dsk

theorem fresh_len (n : Nat) : (fresh n).S.length = n := by simp [fresh]
theorem format_good {κ : World} {L L1 : List Assn} {db : Nat} {D : Dk} {m0 : Nat} (hD : D.ok m0) (hm1 : 1 ≤ m0) (hm0 : m0 ≤ 100000) (hp : Pick (Dsk db D) L L1) {f n : Int} (hf : inInt f) (hn : inInt n) (h : (fmtR D f n).2 = 0) :
    Ctr Tryd.prog 33 #[ptr db 0, vI f, vI n] κ L (fun v M => ∃ b, v = .tuple #[ptr b 0, vI 0] ∧ M = Lgm b db (lg0 f n 1 0) :: Dsk db (fmtR D f n).1 :: L1) :=
  (format_ok hD hm1 hm0 hp hf hn).mono (Ent.refl _) fun _ _ ⟨b, h'⟩ => h'.elim (fun h' => ⟨b, h'.2.1, h'.2.2⟩) fun h' => absurd h h'.1
theorem format_bad {κ : World} {L L1 : List Assn} {db : Nat} {D : Dk} {m0 : Nat} (hD : D.ok m0) (hm1 : 1 ≤ m0) (hm0 : m0 ≤ 100000) (hp : Pick (Dsk db D) L L1) {f n : Int} (hf : inInt f) (hn : inInt n) (h : checkV D f n ≠ 0) :
    Ctr Tryd.prog 33 #[ptr db 0, vI f, vI n] κ L (fun v M => v = .tuple #[.pointer none, vI (checkV D f n)] ∧ M = Dsk db D :: L1) :=
  (format_ok hD hm1 hm0 hp hf hn).mono (Ent.refl _) fun v M ⟨b, h'⟩ => by
    rw [fmtR_c h] at h'
    exact h'.elim (fun h' => absurd h'.1 h) fun h' => ⟨h'.2.1, h'.2.2⟩
theorem appE_ok {g : Lg} {D : Dk} {rec : List UInt8} (h1 : rec.length ≤ 4000) (h2 : (rec.length : Int) ≤ roomV g) (h3 : D.off = false) : appE g D rec = 0 := by unfold appE; rw [if_neg (by omega), if_neg (by omega), if_neg (by rw [h3]; decide)]
theorem LgOk.app {g : Lg} (h : LgOk g) {rec : List UInt8} (hr : rec.length ≤ 4000) (b1 : g.data.length ≤ 9000000) (b2 : g.recs.length ≤ 9000000) (b3 : g.used ≤ 90000000) : LgOk { g with data := g.data ++ leb 4 rec.length ++ rec, recs := g.recs ++ [rec], used := g.used + (rec.length + 12) } := by
  have h0 := h.u0
  have hz := h.z
  refine ⟨h.f0, h.f1, h.n0, h.n1, ?_, ?_, ?_, ?_, h.s0, h.s1, ?_⟩
  · simp only [List.length_append, leb_len]; omega
  · simp only [List.length_append, List.length_singleton]; omega
  · simp only; omega
  · simp only; omega
  · simp only [List.length_append]; omega
theorem around_okW {κ : World} {L : List Assn} (n most : Int) (h1 : -9223372036854775808 ≤ n) (h2 : n ≤ 9223372036854775807) (h3 : 0 < most) : Ctr Tryd.prog 16 #[vI n, vI most] κ L (fun v M => v = vI (aroundV n most) ∧ M = L) := Go.Proofs.YtcbloadpffjkiaaDoor.around_ok n most h1 h2 h3
end Go.Proofs.YtcbloadpffjkiaaDoor
