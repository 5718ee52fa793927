/- A log over a disk that does not fail; what awakes; small acts. -/
import Derived.Test.YtcgjlhhfldkdaaaT8f
set_option linter.unusedSimpArgs false
set_option linter.unusedVariables false
set_option maxRecDepth 100000
namespace Go.Proofs.Ytcgjlhhfldkdaaa
open Go.RowKit
namespace V
set_option maxHeartbeats 4000000
/-- a log and a disk that has it, all of it sure; the disk has not more than so many bytes -/
def LD (n : Nat) (g : LG) (D : DK) : Prop := D.down = false ∧ D.bound = false ∧ D.sure = D.b.length ∧ D.fuel = 0 ∧ g.down = false ∧ D.b.length ≤ n ∧ ∃ rs, D.b = recsB rs ∧ Plays LG.new rs g
theorem LD.new : LD 0 LG.new DK.new := ⟨rfl, rfl, rfl, rfl, rfl, Nat.le_refl _, [], rfl, .nil _ LG.new_ok⟩
theorem LD.okG {n : Nat} {g : LG} {D : DK} (h : LD n g D) : g.ok := by obtain ⟨_, _, _, _, _, _, rs, _, p⟩ := h; exact p.okR
theorem LD.okD {n : Nat} {g : LG} {D : DK} (h : LD n g D) : D.ok n := by
  obtain ⟨h1, h2, h3, h4, h5, h6, _⟩ := h
  exact ⟨by omega, h6, by omega, by omega, fun h => by rw [h2] at h; cases h⟩
theorem play_down (g : LG) (r : Rec) : (g.play r).down = g.down := by cases r <;> rfl
theorem LD.put {n : Nat} {g : LG} {D : DK} (h : LD n g D) {r : Rec} {k : Nat} (hm : r.may g) (hl : (wr r.nd).length ≤ k) (hk : k ≤ 16777216) (ho : (g.play r).ok) : (D.put r.bytes).1 = 0 ∧ LD (n + 4 + k) (g.play r) (D.put r.bytes).2 := by
  obtain ⟨h1, h2, h3, h4, h5, h6, rs, h7, h8⟩ := h
  have e1 : D.step = (true, D) := by unfold DK.step; simp [h1, h2]
  have e2 : D.append r.bytes = (0, { D with b := D.b ++ r.bytes }) := by unfold DK.append; rw [e1]; rfl
  have e3 : D.put r.bytes = (0, { D with b := D.b ++ r.bytes, sure := (D.b ++ r.bytes).length }) := by
    unfold DK.put
    rw [e2]
    simp only [ite_true]
    unfold DK.sync
    have : DK.step { D with b := D.b ++ r.bytes } = (true, { D with b := D.b ++ r.bytes }) := by unfold DK.step; simp [h1, h2]
    rw [this]; rfl
  rw [e3]
  refine ⟨rfl, h1, h2, rfl, h4, by rw [play_down]; exact h5, ?_, rs ++ [r], by rw [recsB_snoc, ← h7], h8.snoc hm (by omega) ho⟩
  show (D.b ++ r.bytes).length ≤ _
  rw [List.length_append, Rec.bytes, List.length_append, be4_len]; omega
theorem LD.crash {n : Nat} {g : LG} {D : DK} (h : LD n g D) : D.crash 0 = D := by
  obtain ⟨h1, h2, h3, h4, _⟩ := h
  unfold DK.crash DK.keeps
  have : D.b.take (D.sure + min (0 : Int).toNat (D.b.length - D.sure)) = D.b := by rw [List.take_of_length_le (by omega)]
  rw [this]
  cases D
  simp at *
  exact ⟨h2, h1⟩
theorem LG.add_ok {g : LG} {i : Int} {m : List Ent} (h : g.ok) (hm : ∀ e ∈ m, u64B e.1 ∧ e.2.length ≤ 1000000) (hl : (g.all.take (i - g.base).toNat).length + m.length ≤ 100000) : (g.play (.add i m)).ok :=
  ⟨h.term, h.vote, h.base, h.baseT, h.state, by unfold LG.play; simp at hl ⊢; exact hl, fun e he => by
    unfold LG.play at he
    simp only [List.mem_append] at he
    rcases he with he | he
    · exact h.all e (List.mem_of_mem_take he)
    · exact hm e he⟩
theorem LG.term_ok {g : LG} {t v : Int} (h : g.ok) (ht : u64B t) (hv : -1 ≤ v ∧ v < 9223372036854775807) : (g.play (.term t v)).ok := ⟨ht, hv, h.base, h.baseT, h.state, h.alln, h.all⟩
theorem openOK_t {R : Hp} (bd : Nat) (u : Value) (D : DK) (n : Nat) (g : LG) (h : LD n g D) (hn : n ≤ 900000000) :
    Tri Try.prog 7 [.pointer (some ⟨bd, 0, none⟩)] R [dkB bd u D, dkS u D] (fun x R' L' => ∃ b va u', x = tupOf [.pointer (some ⟨b, 0, none⟩), .int .i64 0] ∧ FrX entE R' g.all va ∧ L' = [lgB b (some ⟨bd, 0, none⟩) va g, dkB bd u' D, dkS u' D]) := by
  have hD := h.okD
  obtain ⟨h1, h2, h3, h4, h5, h6, rs, h7, h8⟩ := h
  have ho : D.open rs [] = (0, D) := by unfold DK.open; rw [if_neg (by rw [h1]; decide), if_pos rfl]
  have := open_t (R := R) bd u D n rs [] g hD hn (by rw [List.append_nil]; exact h7) torn_nil h8
  rw [ho] at this
  refine Tri.mono this (fun x R' L' hR hx => ?_) (fun _ _ _ _ h => h)
  obtain ⟨p, u', rfl, ⟨_, hne, _⟩ | ⟨b, va, rfl, _, hva, rfl⟩⟩ := hx
  · exact absurd rfl hne
  · exact ⟨b, va, u', rfl, hva, rfl⟩
theorem addOK_t {R : Hp} (b bd : Nat) (va u vm : Value) (g : LG) (D : DK) (n k : Nat) (i : Int) (m : List Ent) (h : LD n g D) (hn : n ≤ 900000000) (hi : g.base ≤ i ∧ i ≤ g.last) (hva : FrX entE R g.all va) (hvm : FrX entE R m vm) (hm : m.length ≤ 100000) (hmb : ∀ e ∈ m, u64B e.1 ∧ e.2.length ≤ 1000000)
    (hml : 40 + entsLen m ≤ k) (hk : k ≤ 10000000) (hl : (g.all.take (i - g.base).toNat).length + m.length ≤ 100000) :
    Tri Try.prog 8 [.pointer (some ⟨b, 0, none⟩), .int .u64 i, vm] R [lgB b (some ⟨bd, 0, none⟩) va g, dkB bd u D, dkS u D]
      (fun x R' L' => x = .int .i64 0 ∧ ∃ u' va' D', LD (n + 4 + k) (g.play (.add i m)) D' ∧ FrX entE R' (g.play (.add i m)).all va' ∧ L' = [lgB b (some ⟨bd, 0, none⟩) va' (g.play (.add i m)), dkB bd u' D', dkS u' D']) := by
  have hg := h.okG
  have hb := hg.base
  have hal := hg.alln
  have hle : g.last = g.base + g.all.length := rfl
  have hln := Rec.len_add (b := i) (by omega) hmb hm
  obtain ⟨p1, p2⟩ := LD.put h (r := .add i m) ⟨hi, hmb, hm⟩ (Nat.le_trans hln hml) (by omega) (LG.add_ok hg hmb hl)
  have e1 : g.addD D i m = (0, g.play (.add i m), (D.put (Rec.add i m).bytes).2) := by
    obtain ⟨h1, h2, h3, h4, h5, _⟩ := h
    unfold LG.addD
    rw [if_neg (by simp [h1, h5]), if_neg (by omega), if_pos p1]
  have := lgAdd_t (R := R) b bd va u vm g D n i m hg (by unfold u64B; omega) hva hvm hm hmb (by omega) h.okD hn
  rw [e1] at this
  refine Tri.mono this (fun x R' L' hR hx => ?_) (fun _ _ _ _ h => h)
  obtain ⟨rfl, u', va', hva', rfl⟩ := hx
  exact ⟨rfl, u', va', _, p2, hva', rfl⟩
theorem setTermOK_t {R : Hp} (b bd : Nat) (va u : Value) (g : LG) (D : DK) (n : Nat) (t v : Int) (h : LD n g D) (hn : n ≤ 900000000) (ht : u64B t) (htg : g.term ≤ t) (hv : -1 ≤ v ∧ v < 9223372036854775807) (hvo : va.oneCell' = true) :
    Tri Try.prog 13 [.pointer (some ⟨b, 0, none⟩), .int .u64 t, .int .i64 v] R [lgB b (some ⟨bd, 0, none⟩) va g, dkB bd u D, dkS u D]
      (fun x R' L' => x = .int .i64 0 ∧ ∃ u' D', LD (n + 44) (g.play (.term t v)) D' ∧ L' = [lgB b (some ⟨bd, 0, none⟩) va (g.play (.term t v)), dkB bd u' D', dkS u' D']) := by
  have hg := h.okG
  obtain ⟨p1, p2⟩ := LD.put h (r := .term t v) ⟨ht, hv.1, hv.2⟩ (Rec.len_term ht hv) (by omega) (LG.term_ok hg ht hv)
  have e1 : g.setTermD D t v = (0, g.play (.term t v), (D.put (Rec.term t v).bytes).2) := by
    obtain ⟨h1, h2, h3, h4, h5, _⟩ := h
    unfold LG.setTermD
    rw [if_neg (by simp [h1, h5]), if_neg (by omega), if_pos p1]; rfl
  have := lgSetTerm_t (R := R) b bd va u g D n t v hg ht hv.2 (by omega) hvo h.okD hn
  rw [e1] at this
  refine Tri.mono this (fun x R' L' hR hx => ?_) (fun _ _ _ _ h => h)
  obtain ⟨rfl, u', rfl⟩ := hx
  exact ⟨rfl, u', _, p2, rfl⟩
theorem crashOK_t {R : Hp} (bd : Nat) (u : Value) (D : DK) (n : Nat) (g : LG) (h : LD n g D) (hn : n ≤ 900000000) :
    Tri Try.prog 11 [.pointer (some ⟨bd, 0, none⟩), .int .i64 0] R [dkB bd u D, dkS u D] (fun x R' L' => ∃ u', L' = [dkB bd u' D, dkS u' D]) := by
  have := crash_t (R := R) bd u D n h.okD (by omega) 0
  rw [h.crash] at this
  exact Tri.mono this (fun x R' L' hR hx => hx.2) (fun _ _ _ _ h => h)
end V
end Go.Proofs.Ytcgjlhhfldkdaaa
