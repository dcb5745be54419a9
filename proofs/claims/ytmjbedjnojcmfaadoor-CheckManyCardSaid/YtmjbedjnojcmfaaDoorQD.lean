/- A part of the proofs of which programs may be: QD. -/
import Derived.Test.YtmjbedjnojcmfaaDoorQC
import Derived.Laws.StructEq
import Derived.ChangeArms
import Derived.ChangeShapes
import Derived.Carry
import Derived.WideKeyArgs
import Derived.ChangeSame
import Derived.RowKit
import Derived.ProofKit
import Derived.OpenShut
import Derived.ChangeOld
import Derived.ChangeCalls
import Derived.SizedLaws
namespace Go.Proofs.YtmjbedjnojcmfaaDoor.Ex
set_option linter.unusedSectionVars false
section
variable [RT]

def dataV : AV → Bool
  | .int _ _ => true
  | .bool _ => true
  | .str _ => true
  | .nil => true
  | .sl _ _ => true
  | _ => false
def dataL : List AV → Bool
  | [] => true
  | v :: r => dataV v && dataL r
theorem dataL_ids : ∀ (l : List AV), dataL l = true → AV.idsL l = []
  | [], _ => rfl
  | v :: r, h => by
    simp only [dataL, Bool.and_eq_true] at h
    simp only [AV.idsL, dataL_ids r h.2, List.append_nil]
    cases v <;> first | rfl | cases h.1
def capL {α : Type} : List AV → (List AV → Prog α) → Prog α
  | [], k => k []
  | .ptr id off :: r, k => .get id fun
    | .box cs => bif dataL cs then .del id (capL r fun r' => k (.view cs off :: r')) else capL r fun r' => k (.ptr id off :: r')
    | _ => .fail
  | v :: r, k => capL r fun r' => k (v :: r')

def lookL {α : Type} : List AV → (List AV → Prog α) → Prog α
  | [], k => k []
  | .row id :: r, k => .get id fun
    | .row e l => lookL r fun r' => k (.sl e l :: r')
    | _ => .fail
  | v :: r, k => lookL r fun r' => k (v :: r')

def rowsL {α : Type} : List AV → (List AV → Prog α) → Prog α
  | [], k => k []
  | .row id :: r, k => .get id fun
    | .row e l => .del id (rowsL r fun r' => k (.sl e l :: r'))
    | _ => .fail
  | v :: r, k => rowsL r fun r' => k (v :: r')
def elemsD (e : Ty) : Nat → List AV → Option (List (D e))
  | 0, cs => match cs with
    | [] => some []
    | _ :: _ => none
  | n + 1, cs => (collapse (eTy e) (cs.take (eTy e).size)).bind fun d => (elemsD e n (cs.drop (eTy e).size)).bind fun l => some (eMk e d :: l)

mutual
/-- A value with its rows aZs data: given up, or only looked at. -/
def frz {α : Type} (dl : Bool) : AV → (AV → Prog α) → Prog α
  | .row id, k => .get id fun
    | .row e l => bif dl then .del id (k (.sl e l)) else k (.sl e l)
    | _ => .fail
  | .sub id sz lo hi, k => .get id fun
    | .row e l => bif Nat.beq sz (eTy e).size then (bif dl then .del id (k (.sl e ((l.take hi).drop lo))) else k (.sl e ((l.take hi).drop lo))) else .fail
    | _ => .fail
  | .agg cs, k => frzL dl cs fun cs' => k (.agg cs')
  | .tup cs, k => frzL dl cs fun cs' => k (.tup cs')
  | .clo g first caps, k => bif dl then capL caps fun caps' => k (.clo g first caps') else frzL dl caps fun caps' => k (.clo g first caps')
  | .ptr id off, k => bif dl then k (.ptr id off) else .get id fun
    | .box cs => lookL cs fun cs' => bif dataL cs' then k (.view cs' off) else k (.ptr id off)
    | _ => .fail
  | .vsl e id sz n, k => bif dl then .get id fun
      | .box cs => bif Nat.beq sz (eTy e).size then .del id (rowsL cs fun cs' => .opt (elemsD e n cs') fun l => k (.sl e l)) else .fail
      | _ => .fail
    else k (.vsl e id sz n)
  | v, k => k v
def frzL {α : Type} (dl : Bool) : List AV → (List AV → Prog α) → Prog α
  | [], k => k []
  | v :: r, k => frz dl v fun v' => frzL dl r fun r' => k (v' :: r')
end

def allS (w : World) : Stb := fun n => match w.heap[n]? with
  | some (.cells c _ _) => some c
  | _ => none

section
variable {P : Program} {tr : Bool} {ok : Nat → Prop} {hdr : Nat → Value} {S : Stb} {h h' : Hp} {f f' : Foot} {w : World}

theorem allS_le (hr : HReal hdr S h.blks w) {n : Nat} {c : Array Value} (k : S n = some c) : allS w n = some c := by
  obtain ⟨e, f, q⟩ := hr.mem n c k
  simp [allS, q]

theorem allS_mem {n : Nat} {c : Array Value} (k : allS w n = some c) : ∃ e f, w.heap[n]? = some (.cells c e f) := by
  unfold allS at k
  split at k
  · rename_i c' e f q; cases k; exact ⟨e, f, q⟩
  · cases k

theorem box_del (hr : HReal hdr S h.blks w) (hm : Ment ok h.blks) {id : Nat} {cs : List AV} (hf : findB h.blks id = some (.box cs)) :
    ∃ S' b, Post tr ok hdr S h w hdr S' ⟨delB h.blks id, h.c⟩ w ∧ hdr id = .pointer (some ⟨b, 0, none⟩) ∧ ∀ off, VRep hdr S' (.view cs off) (.pointer (some ⟨b, off, none⟩)) := by
  have br := hr.blk id _ hf
  cases br with
  | box _ b vs et hh hw hrr =>
    have hblk : blkOf (hdr id) = some b := by rw [hh]; rfl
    have hSb := hr.stb id _ b hf hblk
    have hle : ∀ n c, S n = some c → (if n = b then some vs.toArray else S n) = some c := fun n c k => by
      by_cases e : n = b
      · subst e; rw [hSb] at k; cases k
      · simp [e, k]
    refine ⟨fun n => if n = b then some vs.toArray else S n, b, post_del hr hm id _ hf _ hle (fun n c k => ?_), hh, fun off => ?_⟩
    · by_cases e : n = b
      · subst e; simp only [if_pos] at k; cases k; exact .inr ⟨hblk, et, _, hw⟩
      · simp only [e, if_false] at k; exact .inl k
    · have := VRep.view (hdr := hdr) (S := fun n => if n = b then some vs.toArray else S n) cs vs off b 0 vs.toArray (by simp) (fun j hj => by simp) (hrr.mono hle fun _ _ => rfl)
      rwa [Nat.zero_add] at this
theorem hdr_len (hr : HReal hdr S h.blks w) {id : Nat} {e : Ty} {l : List (D e)} (hf : findB h.blks id = some (.row e l)) : ∀ a len cap, hdr id = .slice a len cap → len = l.length := by
  intro a len cap hh
  have br := hr.blk id _ hf
  cases br with
  | rowNil _ a0 hh' => rw [hh] at hh'; cases hh'; rfl
  | row _ _ b' cap' vs et hh' => rw [hh] at hh'; cases hh'; rfl
theorem sub_data {S S2 : Stb} {id sz lo hi : Nat} {u : Value} (hv : VRep hdr S (.sub id sz lo hi) u) {e : Ty} {l : List (D e)} (hsz : sz = (eTy e).size) (d : DRep S2 (.sl e) [hdr id] l) (hl : ∀ a len cap, hdr id = .slice a len cap → len = l.length) :
    VRep hdr S2 (.sl e ((l.take hi).drop lo)) u := by
  cases hv with | sub _ _ _ _ ao cap hh hcc =>
  by_cases hlh : hi ≤ lo
  · have h0 : (l.take hi).drop lo = [] := List.length_eq_zero_iff.1 (by simp; omega)
    rw [h0, show hi - lo = 0 by omega]
    exact .sl _ _ _ (.slNil e _ _)
  · obtain ⟨bb, len, cap', h1, h2, rfl⟩ := hh.resolve_left hlh
    have hlen := hl _ _ _ h1
    rw [h1] at d
    have hsub : ((l.take hi).drop lo).length = hi - lo := by rw [List.length_drop, List.length_take, Nat.min_eq_left (hlen ▸ h2)]
    rcases d.erep with h3 | ⟨cells, hS, hre⟩
    · rw [h3] at hlen; simp at hlen; omega
    · refine .sl _ _ _ ?_
      rw [← hsub]
      refine DRep.ofERep hS (by omega) fun i hi' => ?_
      rw [hsub] at hi'
      obtain ⟨cs, k1, k2, k3⟩ := hre (lo + i) (by omega)
      refine ⟨cs, k1, fun j hj => ?_, ?_⟩
      · rw [← k2 j hj, hsz]
        congr 1
        rw [Nat.add_mul]; omega
      · simpa [List.getElem_drop, List.getElem_take] using k3
theorem capL_del {α : Type} : ∀ (vs : List AV) (k : List AV → Prog α) (h : Hp) (f : Foot) (S : Stb) (us : List Value) (ok : Nat → Prop), HReal hdr S h.blks w → Ment ok h.blks → VReps hdr S vs us →
    ∀ r, ex (capL vs k) tr h f = some r →
    ∃ vs' h1 f1 S1, ex (k vs') tr h1 f1 = some r ∧ Post tr ok hdr S h w hdr S1 h1 w ∧ VReps hdr S1 vs' us ∧ (∀ n ∈ AV.idsL vs', n ∈ AV.idsL vs) ∧ h1.c = h.c
  | [], k, h, f, S, us, ok, hr, hm, hv, r, e => ⟨[], h, f, S, e, Post.refl hr hm, hv, fun n hn => hn, rfl⟩
  | v :: vs, k, h, f, S, us, ok, hr, hm, hv, r, e => by
    cases hv with | cons _ u _ us hx hv =>
    have other : ∀ f, ex (capL vs fun r' => k (v :: r')) tr h f = some r → ∃ vs' h1 f1 S1, ex (k vs') tr h1 f1 = some r ∧ Post tr ok hdr S h w hdr S1 h1 w ∧ VReps hdr S1 vs' (u :: us) ∧ (∀ n ∈ AV.idsL vs', n ∈ AV.idsL (v :: vs)) ∧ h1.c = h.c := by
      intro f e'
      obtain ⟨vs', h1, f1, S1, e1, p, q, i, c⟩ := capL_del vs _ h f S us ok hr hm hv r e'
      refine ⟨v :: vs', h1, f1, S1, e1, p, .cons _ _ _ _ (hx.mono p.step.sle fun _ _ => rfl) q, fun n hn => ?_, c⟩
      simp only [AV.idsL, List.mem_append] at hn ⊢; exact hn.imp (fun h => h) (i n)
    by_cases hp : ∃ id off, v = .ptr id off
    · obtain ⟨id, off, rfl⟩ := hp
      obtain ⟨b, hb, e⟩ := ex_get e
      split at e
      · rename_i cs
        rcases ex_cond e with ⟨hd, e⟩ | ⟨_, e⟩
        · obtain ⟨_, e⟩ := ex_del e
          obtain ⟨S2, b2, p2, hh2, d2⟩ := box_del (tr := tr) hr hm hb
          have hv2 : VReps hdr S2 vs us := hv.mono p2.step.sle fun _ _ => rfl
          obtain ⟨vs', h1, f1, S1, e1, p, q, i, c⟩ := capL_del vs _ _ _ S2 us ok p2.real (p2.ment.mono fun _ k => okn_self k) hv2 r e
          cases hx with | ptr _ _ b' hh =>
          rw [hh2] at hh; cases hh
          refine ⟨.view cs off :: vs', h1, f1, S1, e1, p2.trans (p.weaken fun _ k => .inl k), .cons _ _ _ _ ((d2 off).mono p.step.sle fun _ _ => rfl) q, fun n hn => ?_, c⟩
          simp only [AV.idsL, AV.ids, dataL_ids cs hd, List.nil_append, List.mem_append] at hn ⊢
          exact .inr (i n hn)
        · exact other _ e
      · exact (ex_fail e).elim
    · have e' : ex (capL vs fun r' => k (v :: r')) tr h f = some r := by
        cases v <;> first | exact e | exact absurd ⟨_, _, rfl⟩ hp
      exact other f e'
theorem rowsL_del {α : Type} : ∀ (vs : List AV) (k : List AV → Prog α) (h : Hp) (f : Foot) (S : Stb) (us : List Value) (ok : Nat → Prop), HReal hdr S h.blks w → Ment ok h.blks → VReps hdr S vs us →
    ∀ r, ex (rowsL vs k) tr h f = some r →
    ∃ vs' h1 f1 S1, ex (k vs') tr h1 f1 = some r ∧ Post tr ok hdr S h w hdr S1 h1 w ∧ VReps hdr S1 vs' us ∧ h1.c = h.c
  | [], k, h, f, S, us, ok, hr, hm, hv, r, e => ⟨[], h, f, S, e, Post.refl hr hm, hv, rfl⟩
  | v :: vs, k, h, f, S, us, ok, hr, hm, hv, r, e => by
    cases hv with | cons _ u _ us hx hv =>
    by_cases hp : ∃ id, v = .row id
    · obtain ⟨id, rfl⟩ := hp
      obtain ⟨b, hb, e⟩ := ex_get e
      split at e
      · rename_i et l
        obtain ⟨_, e⟩ := ex_del e
        obtain ⟨S2, p2, d2⟩ := row_del (tr := tr) hr hm hb
        cases hx with | row _ a len cap hh =>
        rw [hh] at d2
        obtain ⟨vs', h1, f1, S1, e1, p, q, c⟩ := rowsL_del vs _ _ _ S2 us ok p2.real (p2.ment.mono fun _ k => okn_self k) (hv.mono p2.step.sle fun _ _ => rfl) r e
        exact ⟨.sl et l :: vs', h1, f1, S1, e1, p2.trans (p.weaken fun _ k => .inl k), .cons _ _ _ _ (.sl et l _ (d2.mono p.step.sle)) q, c⟩
      · exact (ex_fail e).elim
    · have e' : ex (rowsL vs fun r' => k (v :: r')) tr h f = some r := by
        cases v <;> first | exact e | exact absurd ⟨_, rfl⟩ hp
      obtain ⟨vs', h1, f1, S1, e1, p, q, c⟩ := rowsL_del vs _ h f S us ok hr hm hv r e'
      exact ⟨v :: vs', h1, f1, S1, e1, p, .cons _ _ _ _ (hx.mono p.step.sle fun _ _ => rfl) q, c⟩

theorem elemsD_rep {e : Ty} : ∀ (n : Nat) (cs : List AV) (vs : List Value) (l : List (D e)), VReps hdr S cs vs → elemsD e n cs = some l →
    l.length = n ∧ ∀ i (hi : i < l.length), DRep S (eTy e) ((vs.drop (i * (eTy e).size)).take (eTy e).size) (eVal e l[i])
  | 0, cs, vs, l, hv, q => by
    cases cs with
    | nil => simp only [elemsD, Option.some.injEq] at q; subst q; exact ⟨rfl, fun i hi => absurd hi (by simp)⟩
    | cons _ _ => cases q
  | n + 1, cs, vs, l, hv, q => by
    simp only [elemsD] at q
    obtain ⟨d, hd, q⟩ := Option.bind_eq_some_iff.1 q
    obtain ⟨l', hl', q⟩ := Option.bind_eq_some_iff.1 q
    cases q
    have h1 := collapse_rep (hv.take (eTy e).size) hd
    obtain ⟨k1, k2⟩ := elemsD_rep n _ _ l' (hv.drop (eTy e).size) hl'
    refine ⟨by simp [k1], fun i hi => ?_⟩
    cases i with
    | zero => simpa [eVal_eMk] using h1
    | succ i =>
      have := k2 i (by simpa using hi)
      rw [List.drop_drop] at this
      simpa [Nat.succ_mul, Nat.add_comm] using this

mutual
theorem frz_del {α : Type} : ∀ (v : AV) (k : AV → Prog α) (h : Hp) (f : Foot) (S : Stb) (u : Value) (ok : Nat → Prop), HReal hdr S h.blks w → Ment ok h.blks → VRep hdr S v u →
    ∀ r, ex (frz true v k) tr h f = some r →
    ∃ v' h1 f1 S1, ex (k v') tr h1 f1 = some r ∧ Post tr ok hdr S h w hdr S1 h1 w ∧ VRep hdr S1 v' u ∧ (∀ n ∈ v'.ids, n ∈ v.ids) ∧ h1.c = h.c
  | .row id, k, h, f, S, u, ok, hr, hm, hv, r, e => by
    obtain ⟨b, hb, e⟩ := ex_get e
    split at e
    · rename_i et l
      obtain ⟨_, e⟩ := ex_del e
      obtain ⟨S2, p2, d2⟩ := row_del (tr := tr) hr hm hb
      cases hv with | row _ a len cap hh =>
      rw [hh] at d2
      exact ⟨_, _, _, S2, e, p2, .sl et l _ d2, fun n hn => by simp [AV.ids] at hn, rfl⟩
    · exact (ex_fail e).elim
  | .agg cs, k, h, f, S, u, ok, hr, hm, hv, r, e => by
    cases hv with | agg _ vs hv =>
    obtain ⟨cs', h1, f1, S1, e1, p, q, i, c⟩ := frzL_del cs _ h f S vs ok hr hm hv r e
    exact ⟨_, h1, f1, S1, e1, p, .agg _ _ q, fun n hn => by simpa [AV.ids] using i n (by simpa [AV.ids] using hn), c⟩
  | .tup cs, k, h, f, S, u, ok, hr, hm, hv, r, e => by
    cases hv with | tup _ vs hv =>
    obtain ⟨cs', h1, f1, S1, e1, p, q, i, c⟩ := frzL_del cs _ h f S vs ok hr hm hv r e
    exact ⟨_, h1, f1, S1, e1, p, .tup _ _ q, fun n hn => by simpa [AV.ids] using i n (by simpa [AV.ids] using hn), c⟩
  | .undef, k, h, f, S, u, ok, hr, hm, hv, r, e => ⟨_, h, f, S, e, Post.refl hr hm, hv, fun n hn => hn, rfl⟩
  | .int _ _, k, h, f, S, u, ok, hr, hm, hv, r, e => ⟨_, h, f, S, e, Post.refl hr hm, hv, fun n hn => hn, rfl⟩
  | .bool _, k, h, f, S, u, ok, hr, hm, hv, r, e => ⟨_, h, f, S, e, Post.refl hr hm, hv, fun n hn => hn, rfl⟩
  | .str _, k, h, f, S, u, ok, hr, hm, hv, r, e => ⟨_, h, f, S, e, Post.refl hr hm, hv, fun n hn => hn, rfl⟩
  | .nil, k, h, f, S, u, ok, hr, hm, hv, r, e => ⟨_, h, f, S, e, Post.refl hr hm, hv, fun n hn => hn, rfl⟩
  | .sl _ _, k, h, f, S, u, ok, hr, hm, hv, r, e => ⟨_, h, f, S, e, Post.refl hr hm, hv, fun n hn => hn, rfl⟩
  | .ptr _ _, k, h, f, S, u, ok, hr, hm, hv, r, e => ⟨_, h, f, S, e, Post.refl hr hm, hv, fun n hn => hn, rfl⟩
  | .eptr _ _ _ _, k, h, f, S, u, ok, hr, hm, hv, r, e => ⟨_, h, f, S, e, Post.refl hr hm, hv, fun n hn => hn, rfl⟩
  | .sub id sz lo hi, k, h, f, S, u, ok, hr, hm, hv, r, e => by
    obtain ⟨b, hb, e⟩ := ex_get e
    split at e
    · rename_i et l
      rcases ex_cond e with ⟨hsz, e⟩ | ⟨_, e⟩
      case inr => exact (ex_fail e).elim
      obtain ⟨_, e⟩ := ex_del e
      obtain ⟨S2, p2, d2⟩ := row_del (tr := tr) hr hm hb
      exact ⟨_, _, _, S2, e, p2, sub_data hv (nb_iff.1 hsz) d2 (hdr_len hr hb), fun n hn => by simp [AV.ids] at hn, rfl⟩
    · exact (ex_fail e).elim
  | .vsl et id sz n, k, h, f, S, u, ok, hr, hm, hv, r, e => by
    obtain ⟨b, hb, e⟩ := ex_get e
    split at e
    · rename_i cs
      rcases ex_cond e with ⟨hsz, e⟩ | ⟨_, e⟩
      case inr => exact (ex_fail e).elim
      obtain ⟨_, e⟩ := ex_del e
      have br := hr.blk id _ hb
      cases br with | box _ bb vs ety hh hw hrr =>
      have hblk : blkOf (hdr id) = some bb := by rw [hh]; rfl
      have hSb := hr.stb id _ bb hb hblk
      have hle : ∀ n c, S n = some c → (if n = bb then some vs.toArray else S n) = some c := fun n c k => by
        by_cases e : n = bb
        · subst e; rw [hSb] at k; cases k
        · simp [e, k]
      have p2 := post_del (tr := tr) hr hm id _ hb _ hle (fun n c k => by
        by_cases e : n = bb
        · subst e; simp only [if_pos] at k; cases k; exact .inr ⟨hblk, ety, _, hw⟩
        · simp only [e, if_false] at k; exact .inl k)
      obtain ⟨cs', h1, f1, S1, e, p, q, c⟩ := rowsL_del cs _ _ _ _ vs ok p2.real (p2.ment.mono fun _ k => okn_self k) (hrr.mono hle fun _ _ => rfl) r e
      obtain ⟨l, hl, e⟩ := ex_opt e
      obtain ⟨k1, k2⟩ := elemsD_rep n cs' vs l q hl
      cases hv with | vsl _ _ _ _ b' cap hh' hcc =>
      rw [hh] at hh'; cases hh'
      have hS1 : S1 bb = some vs.toArray := p.step.sle bb _ (by simp)
      refine ⟨_, h1, f1, S1, e, p2.trans (p.weaken fun _ k => .inl k), .sl et l _ ?_, fun m hm => by simp [AV.ids] at hm, c⟩
      rw [← k1]
      refine DRep.ofERep hS1 (by omega) fun i hi => ⟨(vs.drop (i * (eTy et).size)).take (eTy et).size, (k2 i hi).len, fun j hj => ?_, k2 i hi⟩
      rw [List.getElem?_take, if_pos hj, List.getElem?_drop, Nat.zero_add]
      simp
    · exact (ex_fail e).elim
  | .view _ _, k, h, f, S, u, ok, hr, hm, hv, r, e => ⟨_, h, f, S, e, Post.refl hr hm, hv, fun n hn => hn, rfl⟩
  | .clo g first caps, k, h, f, S, u, ok, hr, hm, hv, r, e => by
    cases hv with | clo _ _ _ fs cs h1 h2 =>
    have e : ex (capL caps fun caps' => k (.clo g first caps')) tr h f = some r := e
    obtain ⟨vs', hh, f1, S1, e1, p, q, i, c⟩ := capL_del caps _ h f S cs ok hr hm h2 r e
    refine ⟨_, hh, f1, S1, e1, p, .clo g first vs' fs cs (h1.mono p.step.sle fun _ _ => rfl) q, fun n hn => ?_, c⟩
    simp only [AV.ids, List.mem_append] at hn ⊢
    exact hn.imp id (i n)
theorem frzL_del {α : Type} : ∀ (vs : List AV) (k : List AV → Prog α) (h : Hp) (f : Foot) (S : Stb) (us : List Value) (ok : Nat → Prop), HReal hdr S h.blks w → Ment ok h.blks → VReps hdr S vs us →
    ∀ r, ex (frzL true vs k) tr h f = some r →
    ∃ vs' h1 f1 S1, ex (k vs') tr h1 f1 = some r ∧ Post tr ok hdr S h w hdr S1 h1 w ∧ VReps hdr S1 vs' us ∧ (∀ n ∈ AV.idsL vs', n ∈ AV.idsL vs) ∧ h1.c = h.c
  | [], k, h, f, S, us, ok, hr, hm, hv, r, e => ⟨[], h, f, S, e, Post.refl hr hm, hv, fun n hn => hn, rfl⟩
  | v :: vs, k, h, f, S, us, ok, hr, hm, hv, r, e => by
    cases hv with | cons _ u _ us hx hv =>
    obtain ⟨v', h1, f1, S1, e1, p1, q1, i1, c1⟩ := frz_del v _ h f S u ok hr hm hx r e
    obtain ⟨vs', h2, f2, S2, e2, p2, q2, i2, c2⟩ := frzL_del vs _ h1 f1 S1 us ok p1.real (p1.ment.mono fun n k => by rw [c1] at k; exact okn_self k) (hv.mono p1.step.sle fun _ _ => rfl) r e1
    refine ⟨v' :: vs', h2, f2, S2, e2, p1.trans (p2.weaken fun _ k => .inl k), .cons _ _ _ _ (q1.mono p2.step.sle fun _ _ => rfl) q2, fun n hn => ?_, c2.trans c1⟩
    simp only [AV.idsL, List.mem_append] at hn ⊢
    exact hn.imp (i1 n) (i2 n)
end

theorem row_all (hr : HReal hdr S h.blks w) {id : Nat} {e : Ty} {l : List (D e)} (hf : findB h.blks id = some (.row e l)) : DRep (allS w) (.sl e) [hdr id] l := by
  have br := hr.blk id _ hf
  cases br with
  | rowNil _ a hh => rw [hh]; exact .slNil e a 0
  | row _ _ b cap vs et hh hcap hw hl hs hre =>
    rw [hh]
    exact .ofERep (cells := vs) (by simp [allS, hw]) hl (hre.mono fun _ _ k => allS_le hr k)

theorem lookL_look {α : Type} : ∀ (vs : List AV) (k : List AV → Prog α) (f : Foot) (us : List Value), HReal hdr S h.blks w → VReps hdr S vs us →
    ∀ r, ex (lookL vs k) tr h f = some r → ∃ vs' f1, ex (k vs') tr h f1 = some r ∧ VReps hdr (allS w) vs' us ∧ (∀ n ∈ AV.idsL vs', n ∈ AV.idsL vs)
  | [], k, f, us, hr, hv, r, e => by cases hv; exact ⟨[], f, e, .nil, fun n hn => hn⟩
  | v :: vs, k, f, us, hr, hv, r, e => by
    cases hv with | cons _ u _ us hx hv =>
    have other : ∀ f, ex (lookL vs fun r' => k (v :: r')) tr h f = some r → ∃ vs' f1, ex (k vs') tr h f1 = some r ∧ VReps hdr (allS w) vs' (u :: us) ∧ (∀ n ∈ AV.idsL vs', n ∈ AV.idsL (v :: vs)) := by
      intro f e'
      obtain ⟨vs', f1, e1, q, i⟩ := lookL_look vs _ f us hr hv r e'
      refine ⟨v :: vs', f1, e1, .cons _ _ _ _ (hx.mono (fun _ _ k => allS_le hr k) fun _ _ => rfl) q, fun n hn => ?_⟩
      simp only [AV.idsL, List.mem_append] at hn ⊢; exact hn.imp (fun h => h) (i n)
    by_cases hp : ∃ id, v = .row id
    · obtain ⟨id, rfl⟩ := hp
      obtain ⟨b, hb, e⟩ := ex_get e
      split at e
      · rename_i et l
        have d2 := row_all hr hb
        cases hx with | row _ a len cap hh =>
        rw [hh] at d2
        obtain ⟨vs', f1, e1, q, i⟩ := lookL_look vs _ _ us hr hv r e
        refine ⟨.sl et l :: vs', f1, e1, .cons _ _ _ _ (.sl et l _ d2) q, fun n hn => ?_⟩
        simp only [AV.idsL, AV.ids, List.nil_append, List.mem_append] at hn ⊢
        exact .inr (i n hn)
      · exact (ex_fail e).elim
    · have e' : ex (lookL vs fun r' => k (v :: r')) tr h f = some r := by
        cases v <;> first | exact e | exact absurd ⟨_, rfl⟩ hp
      exact other f e'
mutual
theorem frz_look {α : Type} : ∀ (v : AV) (k : AV → Prog α) (f : Foot) (u : Value), HReal hdr S h.blks w → VRep hdr S v u →
    ∀ r, ex (frz false v k) tr h f = some r → ∃ v' f1, ex (k v') tr h f1 = some r ∧ VRep hdr (allS w) v' u ∧ (∀ n ∈ v'.ids, n ∈ v.ids)
  | .row id, k, f, u, hr, hv, r, e => by
    obtain ⟨b, hb, e⟩ := ex_get e
    split at e
    · rename_i et l
      have d2 := row_all hr hb
      cases hv with | row _ a len cap hh =>
      rw [hh] at d2
      exact ⟨_, _, e, .sl et l _ d2, fun n hn => by simp [AV.ids] at hn⟩
    · exact (ex_fail e).elim
  | .agg cs, k, f, u, hr, hv, r, e => by
    cases hv with | agg _ vs hv =>
    obtain ⟨cs', f1, e1, q, i⟩ := frzL_look cs _ f vs hr hv r e
    exact ⟨_, f1, e1, .agg _ _ q, fun n hn => by simpa [AV.ids] using i n (by simpa [AV.ids] using hn)⟩
  | .tup cs, k, f, u, hr, hv, r, e => by
    cases hv with | tup _ vs hv =>
    obtain ⟨cs', f1, e1, q, i⟩ := frzL_look cs _ f vs hr hv r e
    exact ⟨_, f1, e1, .tup _ _ q, fun n hn => by simpa [AV.ids] using i n (by simpa [AV.ids] using hn)⟩
  | .undef, k, f, u, hr, hv, r, e => ⟨_, f, e, hv.mono (fun _ _ k => allS_le hr k) fun _ _ => rfl, fun n hn => hn⟩
  | .int _ _, k, f, u, hr, hv, r, e => ⟨_, f, e, hv.mono (fun _ _ k => allS_le hr k) fun _ _ => rfl, fun n hn => hn⟩
  | .bool _, k, f, u, hr, hv, r, e => ⟨_, f, e, hv.mono (fun _ _ k => allS_le hr k) fun _ _ => rfl, fun n hn => hn⟩
  | .str _, k, f, u, hr, hv, r, e => ⟨_, f, e, hv.mono (fun _ _ k => allS_le hr k) fun _ _ => rfl, fun n hn => hn⟩
  | .nil, k, f, u, hr, hv, r, e => ⟨_, f, e, hv.mono (fun _ _ k => allS_le hr k) fun _ _ => rfl, fun n hn => hn⟩
  | .sl _ _, k, f, u, hr, hv, r, e => ⟨_, f, e, hv.mono (fun _ _ k => allS_le hr k) fun _ _ => rfl, fun n hn => hn⟩
  | .ptr id off, k, f, u, hr, hv, r, e => by
    obtain ⟨b, hb, e⟩ := ex_get e
    split at e
    · rename_i cs
      have br := hr.blk id _ hb
      cases br with | box _ bb vs et hh hw hrr =>
      cases hv with | ptr _ _ b' hh' =>
      rw [hh] at hh'; cases hh'
      obtain ⟨cs', f1, e1, q, i⟩ := lookL_look cs _ _ vs hr hrr r e
      rcases ex_cond e1 with ⟨hd, e2⟩ | ⟨_, e2⟩
      · have := VRep.view (hdr := hdr) (S := allS w) cs' vs off bb 0 vs.toArray (by simp [allS, hw]) (fun j hj => by simp) q
        rw [Nat.zero_add] at this
        exact ⟨_, f1, e2, this, fun n hn => by simp only [AV.ids, dataL_ids cs' hd] at hn; cases hn⟩
      · exact ⟨_, f1, e2, .ptr _ _ _ hh, fun n hn => hn⟩
    · exact (ex_fail e).elim
  | .eptr _ _ _ _, k, f, u, hr, hv, r, e => ⟨_, f, e, hv.mono (fun _ _ k => allS_le hr k) fun _ _ => rfl, fun n hn => hn⟩
  | .sub id sz lo hi, k, f, u, hr, hv, r, e => by
    obtain ⟨b, hb, e⟩ := ex_get e
    split at e
    · rename_i et l
      rcases ex_cond e with ⟨hsz, e⟩ | ⟨_, e⟩
      case inr => exact (ex_fail e).elim
      exact ⟨_, _, e, sub_data hv (nb_iff.1 hsz) (row_all hr hb) (hdr_len hr hb), fun n hn => by simp [AV.ids] at hn⟩
    · exact (ex_fail e).elim
  | .vsl _ _ _ _, k, f, u, hr, hv, r, e => ⟨_, f, e, hv.mono (fun _ _ k => allS_le hr k) fun _ _ => rfl, fun n hn => hn⟩
  | .view _ _, k, f, u, hr, hv, r, e => ⟨_, f, e, hv.mono (fun _ _ k => allS_le hr k) fun _ _ => rfl, fun n hn => hn⟩
  | .clo g first caps, k, f, u, hr, hv, r, e => by
    cases hv with | clo _ _ _ fs cs h1 h2 =>
    have e : ex (frzL false caps fun caps' => k (.clo g first caps')) tr h f = some r := e
    obtain ⟨cs', f1, e1, q, i⟩ := frzL_look caps _ f cs hr h2 r e
    refine ⟨_, f1, e1, .clo g first cs' fs cs (h1.mono (fun _ _ k => allS_le hr k) fun _ _ => rfl) q, fun n hn => ?_⟩
    simp only [AV.ids, List.mem_append] at hn ⊢
    exact hn.imp (fun k => k) (i n)
theorem frzL_look {α : Type} : ∀ (vs : List AV) (k : List AV → Prog α) (f : Foot) (us : List Value), HReal hdr S h.blks w → VReps hdr S vs us →
    ∀ r, ex (frzL false vs k) tr h f = some r → ∃ vs' f1, ex (k vs') tr h f1 = some r ∧ VReps hdr (allS w) vs' us ∧ (∀ n ∈ AV.idsL vs', n ∈ AV.idsL vs)
  | [], k, f, us, hr, hv, r, e => by cases hv; exact ⟨[], f, e, .nil, fun n hn => hn⟩
  | v :: vs, k, f, us, hr, hv, r, e => by
    cases hv with | cons _ u _ us hx hv =>
    obtain ⟨v', f1, e1, q1, i1⟩ := frz_look v _ f u hr hx r e
    obtain ⟨vs', f2, e2, q2, i2⟩ := frzL_look vs _ f1 us hr hv r e1
    refine ⟨v' :: vs', f2, e2, .cons _ _ _ _ q1 q2, fun n hn => ?_⟩
    simp only [AV.idsL, List.mem_append] at hn ⊢
    exact hn.imp (i1 n) (i2 n)
end

def finP (fz : Bool) (v : AV) : Prog AV :=
  bif fz then frz true v fun v' => .norm 0 [0] [(0, v')] fun T => .ret (getT T 0) else .norm 0 [0] [(0, v)] fun T => .ret (getT T 0)

theorem core {g : FuncId} {q : List AV → Prog AV} {fz : Bool} {vals : List Value} (hq : SoundAt P g vals q) {args : List AV} {v : AV} {hb : Hp} {fb : Foot}
    (hm : ∀ n c, S n = some c → ∃ e f, w.heap[n]? = some (.cells c e f)) (hv : VReps hdr S args vals) (hi : AV.idsL args = [])
    (e : ex ((q args).bind (finP fz)) false ⟨[], 0⟩ ⟨[], []⟩ = some (v, hb, fb)) :
    Callable P g ∧ Calls P g vals.toArray w fun e w' => ∃ u hdr' S', e = .returned u ∧ Post false (fun _ => False) hdr S ⟨[], 0⟩ w hdr' S' hb w' ∧ VRep hdr' S' v u ∧ (∀ n ∈ v.ids, okn (fun _ => False) 0 hb.c n) := by
  obtain ⟨v1, h1, f1, e1, e2⟩ := ex_bind_some e
  have hr0 : HReal hdr S (⟨[], 0⟩ : Hp).blks w := ⟨fun id b hf => (nomatch hf), fun i j b b' n _ hf => (nomatch hf), fun i b n hf => (nomatch hf), hm⟩
  have hm0 : Ment (fun _ => False) (⟨[], 0⟩ : Hp).blks := fun id b hf => by cases hf
  obtain ⟨hc, hcalls⟩ := hq false args ⟨[], 0⟩ ⟨[], []⟩ v1 h1 f1 hdr S w (fun _ => False) e1 hr0 hm0 hv (fun n hn => by rw [hi] at hn; cases hn) (fun _ k => k.elim)
  refine ⟨hc, hcalls.mono ?_⟩
  rintro en w' ⟨u, hdr1, S1, rfl, p1, hv1, hi1⟩
  -- from here on nothing runs
  let a0 : Act := { tmps := #[undef], defers := [] }
  let a1 : Act := { tmps := #[u], defers := [] }
  have fin : ∀ (v2 : AV) (h2 : Hp) (S2 : Stb) (f2 : Foot), Post false (fun _ => False) hdr S ⟨[], 0⟩ w hdr1 S2 h2 w' → VRep hdr1 S2 v2 u → (∀ n ∈ v2.ids, okn (fun _ => False) 0 h2.c n) →
      ex (.norm 0 [0] [(0, v2)] fun T => .ret (getT T 0)) false h2 f2 = some (v, hb, fb) → ∃ u' hdr' S', Ending.returned u = .returned u' ∧ Post false (fun _ => False) hdr S ⟨[], 0⟩ w hdr' S' hb w' ∧ VRep hdr' S' v u' ∧ (∀ n ∈ v.ids, okn (fun _ => False) 0 hb.c n) := by
    intro v2 h2 S2 f2 p2 hv2 hi2 e3
    have l : Left P false (fun _ => False) hdr S ⟨[], 0⟩ w a0 h2 [(0, v2)] hdr1 S2 a1 w' := by
      refine ⟨p2, fun t => ?_, fun t n hn => ?_, rfl, rfl⟩
      · rw [getT_cons]
        by_cases k : 0 = t
        · rw [if_pos k]; subst k; exact hv2
        · rw [if_neg k]; exact .undef _
      · rw [getT_cons] at hn
        by_cases k : 0 = t
        · rw [if_pos k] at hn; exact hi2 n hn
        · rw [if_neg k] at hn; simp [getT, AV.ids] at hn
    obtain ⟨T', h3, hdr3, _, l3, e4⟩ := l.normed e3
    cases ex_ret e4
    exact ⟨u, hdr3, S2, rfl, l3.post, l3.tmps 0, fun n hn => l3.tok 0 n hn⟩
  unfold finP at e2
  cases fz with
  | false => exact fin v1 h1 S1 f1 p1 hv1 hi1 e2
  | true =>
    obtain ⟨v2, h2, f2, S2, e3, p2, hv2, hi2, hc2⟩ := frz_del v1 _ h1 f1 S1 u (okn (fun _ => False) 0 h1.c) p1.real p1.ment hv1 _ e2
    exact fin v2 h2 S2 f2 (p1.trans p2) hv2 (fun n hn => by rw [hc2]; exact hi1 n (hi2 n hn)) e3
end
end
end Go.Proofs.YtmjbedjnojcmfaaDoor.Ex

namespace Go.Proofs.YtmjbedjnojcmfaaDoor.Ex
set_option linter.unusedSectionVars false
section
variable [RT]

def enumB : Nat → List Blk → List (Nat × Blk)
  | _, [] => []
  | i, b :: r => (i, b) :: enumB (i + 1) r

def shiftB (base k i : Nat) : Option Nat := bif leB (i + 1) k then some (base + i) else none

def newsP {α : Type} (ρ : Nat → Option Nat) : List Blk → Prog α → Prog α
  | [], k => k
  | b :: bs, k => .new (b.ren ρ) fun _ => newsP ρ bs k

def specP (dl : Bool) (N : List AV → Option (Bool × AV × List Blk)) (args : List AV) : Prog AV :=
  frzL dl args fun args' => .opt (N args') fun r => .ite r.1 (.ctr fun base => newsP (shiftB base r.2.2.length) r.2.2 (.ret (r.2.1.ren (shiftB base r.2.2.length)))) .fail

def plainT : Ty → Bool
  | .int _ => true
  | .bool => true
  | .str => true
  | .sl _ => false
  | .mu _ => false
  | .st f => plainT f
  | .pair a b => plainT a && plainT b

mutual
def plainV : AV → Bool
  | .undef => true
  | .int _ _ => true
  | .bool _ => true
  | .str _ => true
  | .nil => true
  | .sl _ _ => false
  | .ptr _ _ => true
  | .row _ => true
  | .eptr _ _ _ _ => true
  | .sub _ _ _ _ => true
  | .vsl _ _ _ _ => true
  | .view _ _ => false
  | .clo _ a b => plainL a && plainL b
  | .agg cs => plainL cs
  | .tup cs => plainL cs
def plainL : List AV → Bool
  | [] => true
  | v :: r => plainV v && plainL r
end

def plainB : Blk → Bool
  | .box cs => plainL cs
  | .row e _ => plainT (eTy e)

theorem plain_data {S S' : Stb} {t : Ty} {cs : List Value} {d : D t} (h : DRep S t cs d) : plainT t = true → DRep S' t cs d := by
  induction h with
  | int k n => intro _; exact .int k n
  | bool b => intro _; exact .bool b
  | str s => intro _; exact .str s
  | st f cs d _ ih => intro k; exact .st f cs d (ih k)
  | pair a b cs cs' d d' _ _ ih ih' => intro k; simp only [plainT, Bool.and_eq_true] at k; exact .pair a b cs cs' d d' (ih k.1) (ih' k.2)
  | slNil e a cap => intro k; cases k
  | sl e b o cap l cells cf hb hcap hsz hcell _ ih => intro k; cases k

mutual
theorem plain_rep {hdr : Nat → Value} {S S' : Stb} : ∀ {a : AV} {v : Value}, VRep hdr S a v → plainV a = true → VRep hdr S' a v
  | _, _, .undef v, _ => .undef v
  | _, _, .int k n, _ => .int k n
  | _, _, .bool b, _ => .bool b
  | _, _, .str s, _ => .str s
  | _, _, .nil a, _ => .nil a
  | _, _, .sl _ _ _ _, k => nomatch k
  | _, _, .ptr id off b h, _ => .ptr id off b h
  | _, _, .row id a len cap h, _ => .row id a len cap h
  | _, _, .eptr id sz i off b len cap h, _ => .eptr id sz i off b len cap h
  | _, _, .sub id sz lo hi a cap h hc, _ => .sub id sz lo hi a cap h hc
  | _, _, .vsl e id sz n b cap h hc, _ => .vsl e id sz n b cap h hc
  | _, _, .view _ _ _ _ _ _ _ _ _, k => nomatch k
  | _, _, .clo f first caps fs cs h h', k => by
    simp only [plainV, Bool.and_eq_true] at k
    exact .clo f first caps fs cs (plain_reps h k.1) (plain_reps h' k.2)
  | _, _, .agg cs vs h, k => .agg cs vs (plain_reps h (by simpa only [plainV] using k))
  | _, _, .tup cs vs h, k => .tup cs vs (plain_reps h (by simpa only [plainV] using k))
theorem plain_reps {hdr : Nat → Value} {S S' : Stb} : ∀ {aZs : List AV} {vs : List Value}, VReps hdr S aZs vs → plainL aZs = true → VReps hdr S' aZs vs
  | _, _, .nil, _ => .nil
  | _, _, .cons a v aZs vs h h', k => by
    simp only [plainL, Bool.and_eq_true] at k
    exact .cons a v aZs vs (plain_rep h k.1) (plain_reps h' k.2)
end

theorem plain_blk {hdr : Nat → Value} {S S' : Stb} {w : World} {id : Nat} {b : Blk} (h : BReal hdr S w id b) (k : plainB b = true) : BReal hdr S' w id b := by
  cases h with
  | box cs b vs et hh hw hr => exact .box cs b vs et hh hw (plain_reps hr k)
  | rowNil e a hh => exact .rowNil e a hh
  | row e l b cap vs et hh hc hw hl hs hr =>
    refine .row e l b cap vs et hh hc hw hl hs fun i hi => ?_
    obtain ⟨cs, h1, h2, h3⟩ := hr i hi
    exact ⟨cs, h1, h2, plain_data h3 k⟩


theorem find_enum {id : Nat} : ∀ (bs : List Blk) (i : Nat), findB (enumB i bs) id = if i ≤ id then bs[id - i]? else none
  | [], i => by simp [enumB, findB]
  | b :: r, i => by
    rw [enumB, findB_cons]
    by_cases q : i = id
    · subst q; simp
    · rw [if_neg q, find_enum r (i + 1)]
      by_cases k : i + 1 ≤ id
      · rw [if_pos k, if_pos (by omega), show id - i = (id - (i + 1)) + 1 by omega]
        simp
      · rw [if_neg k, if_neg (by omega)]

def newsB (ρ : Nat → Option Nat) (bs : List (Nat × Blk)) : Nat → List Blk → List (Nat × Blk)
  | _, [] => bs
  | i, b :: r => newsB ρ ((i, b.ren ρ) :: bs) (i + 1) r

theorem ex_news {α : Type} {ρ : Nat → Option Nat} {k : Prog α} {tr : Bool} {r : α × Hp × Foot} : ∀ (bs : List Blk) (h : Hp) (f : Foot), ex (newsP ρ bs k) tr h f = some r → ∃ f', ex k tr ⟨newsB ρ h.blks h.c bs, h.c + bs.length⟩ f' = some r
  | [], h, f, e => ⟨f, e⟩
  | b :: bs, h, f, e => by
    have e' : ex (newsP ρ bs k) tr ⟨(h.c, b.ren ρ) :: h.blks, h.c + 1⟩ (addW tr f h.c) = some r := ex_new e
    obtain ⟨f', e2⟩ := ex_news bs _ _ e'
    refine ⟨f', ?_⟩
    rw [show (b :: bs).length = bs.length + 1 from rfl, show h.c + (bs.length + 1) = h.c + 1 + bs.length by omega]
    exact e2

theorem find_news {ρ : Nat → Option Nat} {id : Nat} : ∀ (bs : List Blk) (i : Nat) (l : List (Nat × Blk)), findB (newsB ρ l i bs) id = if i ≤ id ∧ id < i + bs.length then (bs[id - i]?).map (Blk.ren ρ) else findB l id
  | [], i, l => by simp only [newsB, List.length_nil]; rw [if_neg (by omega)]
  | b :: r, i, l => by
    rw [newsB, find_news r (i + 1), findB_cons]
    simp only [List.length_cons]
    by_cases q : i = id
    · subst q
      rw [if_neg (by omega), if_pos rfl, if_pos ⟨Nat.le_refl _, by omega⟩]
      simp
    · rw [if_neg q]
      by_cases k : i + 1 ≤ id ∧ id < i + 1 + r.length
      · rw [if_pos k, if_pos ⟨by omega, by omega⟩, show id - i = (id - (i + 1)) + 1 by omega]
        simp
      · rw [if_neg k, if_neg (by omega)]

theorem shiftB_some {base k n m : Nat} (e : shiftB base k n = some m) : n < k ∧ m = base + n := by
  unfold shiftB at e
  rcases ht : leB (n + 1) k with _ | _ <;> rw [ht] at e
  · cases e
  · simp only [cond_true, Option.some.injEq] at e
    have := leB_iff.1 ht
    exact ⟨by omega, e.symm⟩

variable {P : Program}

theorem soundAt_spec {g : FuncId} {q : List AV → Prog AV} {fz dl : Bool} {vals : List Value} (hq : SoundAt P g vals q) {N : List AV → Option (Bool × AV × List Blk)}
    (hN : ∀ args v bs, N args = some (true, v, bs) → AV.idsL args = [] ∧ (dl = true ∨ (plainV v = true ∧ bs.all plainB = true)) ∧ ∃ fb, ex ((q args).bind (finP fz)) false ⟨[], 0⟩ ⟨[], []⟩ = some (v, ⟨enumB 0 bs, bs.length⟩, fb)) : SoundAt P g vals (specP dl N) := by
  intro tr args h ft v h' ft' hdr S w ok e hr hm hv hi hO
  -- the arguments aZs data
  have hargs : ∃ args' h1 f1 S1 Sx, ex (.opt (N args') fun r => .ite r.1 (.ctr fun base => newsP (shiftB base r.2.2.length) r.2.2 (.ret (r.2.1.ren (shiftB base r.2.2.length)))) .fail) tr h1 f1 = some (v, h', ft') ∧
      Post tr ok hdr S h w hdr S1 h1 w ∧ h1.c = h.c ∧ VReps hdr Sx args' vals ∧ (∀ n c, Sx n = some c → ∃ e f, w.heap[n]? = some (.cells c e f)) ∧ (dl = true → Sx = S1) := by
    unfold specP at e
    cases dl with
    | true =>
      obtain ⟨args', h1, f1, S1, e1, p1, q1, i1, c1⟩ := frzL_del args _ h ft S vals ok hr hm hv _ e
      exact ⟨args', h1, f1, S1, S1, e1, p1, c1, q1, p1.real.mem, fun _ => rfl⟩
    | false =>
      obtain ⟨args', f1, e1, q1, i1⟩ := frzL_look args _ ft vals hr hv _ e
      exact ⟨args', h, f1, S, allS w, e1, Post.refl hr hm, rfl, q1, fun n c k => allS_mem k, fun k => nomatch k⟩
  obtain ⟨args', h1, f1, S1, Sx, e1, p1, c1, q1, m1, hSx⟩ := hargs
  obtain ⟨⟨c0, v0, bs⟩, hNa, e2⟩ := ex_opt e1
  rcases ex_ite e2 with ⟨hc0, e2⟩ | ⟨_, e2⟩
  case inr => exact (ex_fail e2).elim
  obtain rfl : c0 = true := hc0
  have e2 : ex (newsP (shiftB h1.c bs.length) bs (.ret (v0.ren (shiftB h1.c bs.length)))) tr h1 f1 = some (v, h', ft') := e2
  obtain ⟨f2, e3⟩ := ex_news bs h1 f1 e2
  cases ex_ret e3
  obtain ⟨hids, hpl, fb, hex⟩ := hN args' v0 bs hNa
  obtain ⟨hcall, hcalls⟩ := core hq m1 q1 hids hex
  refine ⟨hcall, hcalls.mono ?_⟩
  rintro en w' ⟨u, hdr', S', rfl, p2, hv2, hi2⟩
  -- how memory stands
  have hsize := p2.step.size
  have hold : ∀ n, n < w.heap.size → w'.heap[n]? = w.heap[n]? := fun n hn => p2.step.frame n hn fun ⟨id, b, hf, _⟩ => nomatch hf
  let hdr2 : Nat → Value := fun id => if h1.c ≤ id ∧ id < h1.c + bs.length then hdr' (id - h1.c) else hdr id
  have hnew : ∀ n m, shiftB h1.c bs.length n = some m → hdr2 m = hdr' n := fun n m e => by
    obtain ⟨h1', rfl⟩ := shiftB_some e
    show (if _ then _ else _) = _
    rw [if_pos ⟨by omega, by omega⟩, Nat.add_sub_cancel_left]
  have hout : ∀ id, Out tr h1.c (h1.c + bs.length) id → hdr2 id = hdr id := fun id k => by
    show (if _ then _ else _) = _
    rw [if_neg]
    rcases k with k | ⟨_, k⟩ <;> omega
  have hO' : ∀ id, ok id → Out tr h1.c (h1.c + bs.length) id := fun id k => by rw [c1]; exact c1 ▸ hO id k
  have ment1 : Ment ok h1.blks := p1.ment.mono fun n k => by rw [c1] at k; exact okn_self k
  let S2 : Stb := if dl = true then S' else S1
  have hS2 : ∀ n c, S1 n = some c → S2 n = some c := fun n c k => by
    by_cases hd : dl = true
    · have e : S2 = S' := if_pos hd
      rw [e]; exact p2.step.sle n c (by rw [hSx hd]; exact k)
    · have e : S2 = S1 := if_neg hd
      rw [e]; exact k
  have hS2new : ∀ n c, S2 n = some c → S1 n = some c ∨ w.heap.size ≤ n := fun n c k => by
    by_cases hd : dl = true
    · have e : S2 = S' := if_pos hd
      rw [e] at k
      rcases p2.step.snew n c k with k | ⟨id, b, hf, _⟩ | k
      · rw [hSx hd] at k; exact .inl k
      · exact nomatch hf
      · exact .inr k
    · have e : S2 = S1 := if_neg hd
      rw [e] at k; exact .inl k
  have vS2 : VRep hdr' S2 v0 u := by
    show VRep hdr' (if _ then _ else _) v0 u
    by_cases hd : dl = true
    · rw [if_pos hd]; exact hv2
    · rw [if_neg hd]; exact plain_rep hv2 (hpl.resolve_left hd).1
  have find2 : ∀ id b, findB (newsB (shiftB h1.c bs.length) h1.blks h1.c bs) id = some b → (∃ i c, bs[i]? = some c ∧ id = h1.c + i ∧ i < bs.length ∧ b = c.ren (shiftB h1.c bs.length)) ∨ (findB h1.blks id = some b ∧ hdr2 id = hdr id) := fun id b k => by
    rw [find_news] at k
    by_cases q : h1.c ≤ id ∧ id < h1.c + bs.length
    · rw [if_pos q] at k
      obtain ⟨c, hc, rfl⟩ := Option.map_eq_some_iff.1 k
      exact .inl ⟨id - h1.c, c, hc, by omega, by omega, rfl⟩
    · rw [if_neg q] at k
      exact .inr ⟨k, hout id (hO' id (ment1 id b k).1)⟩
  have hshift : ∀ i, i < bs.length → shiftB h1.c bs.length i = some (h1.c + i) := fun i hi => by
    unfold shiftB
    rw [leB_iff.2 (by omega), cond_true]
  have breal : ∀ i c, bs[i]? = some c → BReal hdr' S2 w' i c := fun i c k => by
    have := p2.real.blk i c (by rw [find_enum]; simpa using k)
    show BReal hdr' (if _ then _ else _) w' i c
    by_cases hd : dl = true
    · rw [if_pos hd]; exact this
    · rw [if_neg hd]; exact plain_blk this (List.all_eq_true.1 (hpl.resolve_left hd).2 c (List.mem_of_getElem? k))
  have newge : ∀ i c n, bs[i]? = some c → blkOf (hdr' i) = some n → w.heap.size ≤ n := fun i c n k hn => by
    rcases p2.step.own' n ⟨i, c, by rw [find_enum]; simpa using k, hn⟩ with ⟨id, b, hf, _⟩ | k
    · exact nomatch hf
    · exact k
  have post : Post tr ok hdr S1 h1 w hdr2 S2 ⟨newsB (shiftB h1.c bs.length) h1.blks h1.c bs, h1.c + bs.length⟩ w' := by
    refine ⟨Nat.le_add_right _ _, fun id k => hout id k, ⟨fun id b hf => ?_, fun i j b b' n hij hf hg hni hnj => ?_, fun i b n hf hni => ?_, fun n cs k => ?_⟩, ⟨p2.step.os, p2.step.tape, p2.step.output, hsize, fun n hn _ => hold n hn, fun n k => ?_, hS2, fun n c k => ?_⟩, fun id b hf => ?_⟩
    · rcases find2 id b hf with ⟨i, c, hc, rfl, hi, rfl⟩ | ⟨hf, hh⟩
      · exact blkRen_real hnew (breal i c hc) (hshift i hi)
      · have br := p1.real.blk id b hf
        exact br.congr hS2 hh (fun n hn => hout n (hO' n ((ment1 id b hf).2 n hn))) fun n hn => hold n (br.lt hn)
    · rcases find2 i b hf with ⟨i', c, hc, rfl, hi, rfl⟩ | ⟨hf, hh⟩ <;> rcases find2 j b' hg with ⟨j', c', hc', rfl, hj, rfl⟩ | ⟨hg, hh'⟩
      · rw [hnew _ _ (hshift i' hi)] at hni
        rw [hnew _ _ (hshift j' hj)] at hnj
        exact p2.real.sep i' j' c c' n (by rintro rfl; exact hij rfl) (by rw [find_enum]; simpa using hc) (by rw [find_enum]; simpa using hc') hni hnj
      · rw [hnew _ _ (hshift i' hi)] at hni
        rw [hh'] at hnj
        have := newge i' c n hc hni
        have := (p1.real.blk j b' hg).lt hnj
        omega
      · rw [hnew _ _ (hshift j' hj)] at hnj
        rw [hh] at hni
        have := newge j' c' n hc' hnj
        have := (p1.real.blk i b hf).lt hni
        omega
      · rw [hh] at hni
        rw [hh'] at hnj
        exact p1.real.sep i j b b' n hij hf hg hni hnj
    · cases hs : S2 n with
      | none => rfl
      | some c =>
        exfalso
        rcases find2 i b hf with ⟨i', c', hc, rfl, hi, rfl⟩ | ⟨hf, hh⟩
        · rw [hnew _ _ (hshift i' hi)] at hni
          by_cases hd : dl = true
          · have := p2.real.stb i' c' n (by rw [find_enum]; simpa using hc) hni
            have e : S2 = S' := if_pos hd
            rw [e, this] at hs; cases hs
          · have e : S2 = S1 := if_neg hd
            rw [e] at hs
            have := p1.real.stb_lt hs
            have := newge i' c' n hc hni
            omega
        · rw [hh] at hni
          rcases hS2new n c hs with k | k
          · rw [p1.real.stb i b n hf hni] at k; cases k
          · have := (p1.real.blk i b hf).lt hni
            omega
    · by_cases hd : dl = true
      · have e : S2 = S' := if_pos hd
        rw [e] at k
        exact p2.real.mem n cs k
      · have e : S2 = S1 := if_neg hd
        rw [e] at k
        obtain ⟨e1, e2, e3⟩ := p1.real.mem n cs k
        exact ⟨e1, e2, by rw [hold n (p1.real.stb_lt k)]; exact e3⟩
    · obtain ⟨id, b, hf, hb⟩ := k
      rcases find2 id b hf with ⟨i, c, hc, rfl, hi, rfl⟩ | ⟨hf, hh⟩
      · rw [hnew _ _ (hshift i hi)] at hb
        exact .inr (newge i c n hc hb)
      · rw [hh] at hb
        exact .inl ⟨id, b, hf, hb⟩
    · rcases hS2new n c k with k | k
      · exact .inl k
      · exact .inr (.inr k)
    · rcases find2 id b hf with ⟨i, c, hc, rfl, hi, rfl⟩ | ⟨hf, hh⟩
      · refine ⟨.inr ⟨Nat.le_add_right _ _, by show h1.c + i < h1.c + bs.length; omega⟩, fun n hn => ?_⟩
        obtain ⟨m, _, e⟩ := blkRen_ids hn
        obtain ⟨k1, rfl⟩ := shiftB_some e
        exact .inr ⟨Nat.le_add_right _ _, by show h1.c + m < h1.c + bs.length; omega⟩
      · exact ⟨.inl (ment1 id b hf).1, fun n hn => .inl ((ment1 id b hf).2 n hn)⟩
  refine ⟨u, hdr2, S2, rfl, p1.trans (post.weaken fun _ k => .inl k), ren_rep hnew v0 u vS2, fun n hn => ?_⟩
  obtain ⟨m, _, e⟩ := ren_ids v0 n hn
  obtain ⟨k1, rfl⟩ := shiftB_some e
  exact .inr ⟨by rw [← c1]; exact Nat.le_add_right _ _, by show h1.c + m < h1.c + bs.length; omega⟩
theorem soundA_spec {g : FuncId} {q : List AV → Prog AV} {fz dl : Bool} (hq : SoundA P g q) {N : List AV → Option (Bool × AV × List Blk)}
    (hN : ∀ args v bs, N args = some (true, v, bs) → AV.idsL args = [] ∧ (dl = true ∨ (plainV v = true ∧ bs.all plainB = true)) ∧ ∃ fb, ex ((q args).bind (finP fz)) false ⟨[], 0⟩ ⟨[], []⟩ = some (v, ⟨enumB 0 bs, bs.length⟩, fb)) : SoundA P g (specP dl N) :=
  .of fun vals => soundAt_spec (hq.at vals) hN

end
end Go.Proofs.YtmjbedjnojcmfaaDoor.Ex

namespace Go.Proofs.YtmjbedjnojcmfaaDoor.Ex
set_option linter.unusedSectionVars false
section
variable [RT]

def fldB (tab : List (TypeId × TInfo)) : List Field → Ty → Nat → List (Nat × Nat) → Bool
  | [], _, _, _ => false
  | fd :: r, f, off, q => match q with
    | [] => false
    | (o, n) :: q' => Nat.beq fd.offset off && (Nat.beq o off && match r with
      | [] => (match tiL tab fd.type with | some i => decide (i.ty = f) | none => false) && (Nat.beq n f.size && q'.isEmpty)
      | _ :: _ => match f with
        | .pair a b => (match tiL tab fd.type with | some i => decide (i.ty = a) | none => false) && (Nat.beq n a.size && fldB tab r b (off + a.size) q')
        | _ => false)

def undB (P : Program) (tab : List (TypeId × TInfo)) (t : TypeId) (i : TInfo) : Bool :=
  match P.underlying t, i.ty with
  | some (.int k), .int k' => decide (k = k')
  | some .bool, .bool => true
  | some .string, .str => true
  | some (.slice e), .sl e' => Nat.beq e i.elem && match tiL tab i.elem with | some ie => decide (ie.ty = eTy e') | none => false
  | some (.struct fs), .st f => Nat.beq fs.size i.flds.length && fldB tab fs.toList f 0 i.flds
  | some (.func _ _ _), .mu _ => true
  | _, _ => false

def zB : Ty → List Value → Option (List Value)
  | .int k, .int k' n :: r => if k = k' ∧ n = 0 then some r else none
  | .bool, .bool false :: r => some r
  | .str, .string s :: r => bif Nat.beq s.size 0 then some r else none
  | .sl _, .slice none 0 0 :: r => some r
  | .mu _, .nilFunc :: r => some r
  | .st f, l => zB f l
  | .pair a b, l => (zB a l).bind fun r => zB b r
  | _, _ => none

def infoB (P : Program) (t : TypeId) (i : TInfo) : Bool :=
  match P.info? t with
  | none => false
  | some inf => Nat.beq inf.size i.ty.size && (Nat.beq inf.bytes i.bytes && match inf.zero with
    | none => false
    | some z => match zB i.ty z.cells.toList with
      | some [] => true
      | _ => false)

def tabB (P : Program) (tab : List (TypeId × TInfo)) : Bool := tab.all fun x => infoB P x.1 x.2 && undB P tab x.1 x.2

def FldsOk (P : Program) (tab : List (TypeId × TInfo)) : List Field → Ty → Nat → Prop
  | [], _, _ => False
  | [fd], f, off => fd.offset = off ∧ ∃ i, tiL tab fd.type = some i ∧ i.ty = f
  | fd :: r, f, off => ∃ a b, f = .pair a b ∧ fd.offset = off ∧ (∃ i, tiL tab fd.type = some i ∧ i.ty = a) ∧ FldsOk P tab r b (off + a.size)

theorem zB_some : ∀ (t : Ty) (l r : List Value), zB t l = some r → l = zvals t ++ r := by
  intro t
  induction t with
  | int k =>
    intro l r e
    unfold zB at e
    split at e <;> rename_i h
    all_goals first | cases h | skip
    · split at e
      · rename_i h; obtain ⟨rfl, rfl⟩ := h; cases e; rfl
      · cases e
    · cases e
  | bool =>
    intro l r e
    unfold zB at e
    split at e <;> rename_i h
    all_goals first | cases h | skip
    · cases e; rfl
    · cases e
  | str =>
    intro l r e
    unfold zB at e
    split at e <;> rename_i h
    all_goals first | cases h | skip
    · rename_i s r'
      rcases ex_cond (p := Prog.ret (α := Nat) 0) (q := Prog.ret 0) (tr := false) (h := ⟨[], 0⟩) (f := ⟨[], []⟩) (b := Nat.beq s.size 0) (r := (0, ⟨[], 0⟩, ⟨[], []⟩)) (by cases Nat.beq s.size 0 <;> rfl) with ⟨k, _⟩ | ⟨k, _⟩
      · rw [k] at e
        cases e
        have : s = ByteArray.empty := by
          have h0 := nb_iff.1 k
          obtain ⟨d⟩ := s
          have : d = #[] := Array.eq_empty_of_size_eq_zero h0
          subst this
          rfl
        subst this
        rfl
      · rw [k] at e; cases e
    · cases e
  | sl e0 _ =>
    intro l r e
    unfold zB at e
    split at e <;> rename_i h
    all_goals first | cases h | skip
    · cases e; rfl
    · cases e
  | mu n =>
    intro l r e
    unfold zB at e
    split at e <;> rename_i h
    all_goals first | cases h | skip
    · cases e; rfl
    · cases e
  | st f ih =>
    intro l r e
    exact ih l r e
  | pair a b iha ihb =>
    intro l r e
    have e : (zB a l).bind (fun r => zB b r) = some r := e
    obtain ⟨m, h1, h2⟩ := Option.bind_eq_some_iff.1 e
    rw [iha l m h1, ihb m r h2]
    simp [zvals]


variable {P : Program} {tab : List (TypeId × TInfo)}

theorem tiB {t : TypeId} {f : Ty} (e : (match tiL tab t with | some i => decide (i.ty = f) | none => false) = true) : ∃ i, tiL tab t = some i ∧ i.ty = f := by
  cases h : tiL tab t with
  | none => rw [h] at e; cases e
  | some i => rw [h] at e; exact ⟨i, rfl, of_decide_eq_true e⟩

theorem fldB_cons {fd fd' : Field} {r : List Field} {f : Ty} {off o n : Nat} {q : List (Nat × Nat)} (e : fldB tab (fd :: fd' :: r) f off ((o, n) :: q) = true) :
    ∃ a b, f = .pair a b ∧ fd.offset = off ∧ o = off ∧ (∃ i, tiL tab fd.type = some i ∧ i.ty = a) ∧ n = a.size ∧ fldB tab (fd' :: r) b (off + a.size) q = true := by
  unfold fldB at e
  simp only [Bool.and_eq_true] at e
  obtain ⟨h1, h2, h3⟩ := e
  cases f <;> simp only [Bool.false_eq_true] at h3
  rename_i a b
  simp only [Bool.and_eq_true] at h3
  obtain ⟨h3, h4, h5⟩ := h3
  exact ⟨a, b, rfl, nb_iff.1 h1, nb_iff.1 h2, tiB h3, nb_iff.1 h4, h5⟩

theorem fldB_one {fd : Field} {f : Ty} {off o n : Nat} {q : List (Nat × Nat)} (e : fldB tab [fd] f off ((o, n) :: q) = true) :
    fd.offset = off ∧ o = off ∧ (∃ i, tiL tab fd.type = some i ∧ i.ty = f) ∧ n = f.size ∧ q = [] := by
  unfold fldB at e
  simp only [Bool.and_eq_true, List.isEmpty_iff] at e
  obtain ⟨h1, h2, h3, h4, h5⟩ := e
  exact ⟨nb_iff.1 h1, nb_iff.1 h2, tiB h3, nb_iff.1 h4, h5⟩

theorem fldB_ok : ∀ (fs : List Field) (f : Ty) (off : Nat) (q : List (Nat × Nat)), fldB tab fs f off q = true →
    FldsOk P tab fs f off ∧ (∀ (j : Nat) (p : Nat × Nat), q[j]? = some p → ∃ (fd : Field) (i : TInfo), fs[j]? = some fd ∧ fd.offset = p.1 ∧ tiL tab fd.type = some i ∧ i.ty.size = p.2)
  | [], f, off, q, e => by unfold fldB at e; cases e
  | [fd], f, off, [], e => by unfold fldB at e; cases e
  | fd :: fd' :: r, f, off, [], e => by unfold fldB at e; cases e
  | [fd], f, off, (o, n) :: q, e => by
    obtain ⟨h1, h2, ⟨i, h3, h4⟩, h5, rfl⟩ := fldB_one e
    refine ⟨⟨h1, i, h3, h4⟩, fun j p hj => ?_⟩
    cases j with
    | zero =>
      simp only [List.getElem?_cons_zero, Option.some.injEq] at hj
      subst hj
      exact ⟨fd, i, rfl, h1.trans h2.symm, h3, by rw [h4, h5]⟩
    | succ j => simp at hj
  | fd :: fd' :: r, f, off, (o, n) :: q, e => by
    obtain ⟨a, b, rfl, h1, h2, ⟨i, h3, h4⟩, h5, h6⟩ := fldB_cons e
    obtain ⟨k1, k2⟩ := fldB_ok (fd' :: r) b (off + a.size) q h6
    refine ⟨⟨a, b, rfl, h1, ⟨i, h3, h4⟩, k1⟩, fun j p hj => ?_⟩
    cases j with
    | zero =>
      simp only [List.getElem?_cons_zero, Option.some.injEq] at hj
      subst hj
      exact ⟨fd, i, rfl, h1.trans h2.symm, h3, by rw [h4, h5]⟩
    | succ j => exact k2 j p (by simpa using hj)

theorem tiL_mem {t : TypeId} {i : TInfo} : ∀ {tab : List (TypeId × TInfo)}, tiL tab t = some i → (t, i) ∈ tab
  | [], e => by cases e
  | (k, j) :: r, e => by
    unfold tiL at e
    by_cases h : k = t
    · subst h
      simp only [nb_self, cond_true, Option.some.injEq] at e
      subst e
      exact List.mem_cons_self
    · rw [nb_ne h, cond_false] at e
      exact List.mem_cons_of_mem _ (tiL_mem e)

theorem tab_info (ht : tabB P tab = true) {t : TypeId} {i : TInfo} (e : tiL tab t = some i) : ∃ inf z, P.info? t = some inf ∧ inf.size = i.ty.size ∧ inf.bytes = i.bytes ∧ inf.zero = some z ∧ z.cells.toList = zvals i.ty := by
  have := List.all_eq_true.1 ht _ (tiL_mem e)
  simp only [Bool.and_eq_true] at this
  have h := this.1
  unfold infoB at h
  split at h
  · cases h
  · rename_i inf hinf
    simp only [Bool.and_eq_true] at h
    obtain ⟨h1, h2, h3⟩ := h
    split at h3
    · cases h3
    · rename_i z hz
      split at h3
      · rename_i hzb
        have := zB_some _ _ _ hzb
        rw [List.append_nil] at this
        exact ⟨inf, z, hinf, nb_iff.1 h1, nb_iff.1 h2, hz, this⟩
      · cases h3

inductive RdU (P : Program) (tab : List (TypeId × TInfo)) (t : TypeId) (i : TInfo) : Prop where
  | int (k : IntKind) (h : P.underlying t = some (.int k)) (h' : i.ty = .int k)
  | bool (h : P.underlying t = some .bool) (h' : i.ty = .bool)
  | str (h : P.underlying t = some .string) (h' : i.ty = .str)
  | sl (e' : Ty) (ie : TInfo) (h : P.underlying t = some (.slice i.elem)) (h' : i.ty = .sl e') (h2 : tiL tab i.elem = some ie) (h3 : ie.ty = eTy e')
  | fn (n : Nat) (ps rs : Array TypeId) (v : Bool) (h : P.underlying t = some (.func ps rs v)) (h' : i.ty = .mu n)
  | st (fs : Array Field) (f : Ty) (h : P.underlying t = some (.struct fs)) (h' : i.ty = .st f) (hn : fs.size = i.flds.length) (h2 : FldsOk P tab fs.toList f 0)
      (h3 : ∀ (j : Nat) (p : Nat × Nat), i.flds[j]? = some p → ∃ (fd : Field) (i : TInfo), fs.toList[j]? = some fd ∧ fd.offset = p.1 ∧ tiL tab fd.type = some i ∧ i.ty.size = p.2)

theorem tab_und (ht : tabB P tab = true) {t : TypeId} {i : TInfo} (e : tiL tab t = some i) : RdU P tab t i := by
  have := List.all_eq_true.1 ht _ (tiL_mem e)
  simp only [Bool.and_eq_true] at this
  have h := this.2
  unfold undB at h
  split at h
  · rename_i k k' h1 h2; have := of_decide_eq_true h; subst this; exact .int _ h1 h2
  · rename_i h1 h2; exact .bool h1 h2
  · rename_i h1 h2; exact .str h1 h2
  · rename_i e0 e' h1 h2
    simp only [Bool.and_eq_true] at h
    obtain ⟨ie, k1, k2⟩ := tiB h.2
    have := nb_iff.1 h.1
    subst this
    exact .sl e' ie h1 h2 k1 k2
  · rename_i fs f h1 h2
    simp only [Bool.and_eq_true] at h
    obtain ⟨k1, k2⟩ := fldB_ok (P := P) _ _ _ _ h.2
    exact .st fs f h1 h2 (nb_iff.1 h.1) k1 k2
  · rename_i ps rs v n h1 h2; exact .fn n ps rs v h1 h2
  · cases h

theorem fldsOk_ty (ht : tabB P tab = true) : ∀ (fs : List Field) (f : Ty) (o : Nat), FldsOk P tab fs f o → ∀ (j off : Nat) (g : Ty), fldTy o f j = some (off, g) → ∃ (fd : Field) (i' : TInfo), fs[j]? = some fd ∧ fd.offset = off ∧ tiL tab fd.type = some i' ∧ i'.ty = g
  | [], _, _, h, _, _, _, _ => h.elim
  | [fd], f, o, h, j, off, g, e => by
    obtain ⟨ho, i, hi, rfl⟩ := h
    have hnp : ∀ a b, i.ty ≠ .pair a b := fun a b hp => by
      cases tab_und ht hi with
      | int k h h' => rw [h'] at hp; cases hp
      | bool h h' => rw [h'] at hp; cases hp
      | str h h' => rw [h'] at hp; cases hp
      | sl e' ie h h' h2 h3 => rw [h'] at hp; cases hp
      | fn n ps rs v h h' => rw [h'] at hp; cases hp
      | st fs f h h' hn h2 h3 => rw [h'] at hp; cases hp
    unfold fldTy at e
    split at e
    · rename_i hp; exact absurd hp (hnp _ _)
    · rename_i hp; exact absurd hp (hnp _ _)
    · cases e; exact ⟨fd, i, rfl, ho, hi, rfl⟩
    · cases e
  | fd :: fd' :: r, f, o, h, j, off, g, e => by
    obtain ⟨a, b, rfl, ho, ⟨i, hi, rfl⟩, hr⟩ := h
    cases j with
    | zero => unfold fldTy at e; cases e; exact ⟨fd, i, rfl, ho, hi, rfl⟩
    | succ n =>
      unfold fldTy at e
      obtain ⟨fd2, i2, k1, k2, k3, k4⟩ := fldsOk_ty ht (fd' :: r) b _ hr n off g e
      exact ⟨fd2, i2, by simpa using k1, k2, k3, k4⟩
theorem tabOk_of (ht : tabB P tab = true) : TabOk P tab := fun t i e => by
  refine ⟨tab_info ht e, ?_, fun f hf => ?_⟩
  case refine_2 =>
    cases tab_und ht e with
    | int k h h' => rw [h'] at hf; cases hf
    | bool h h' => rw [h'] at hf; cases hf
    | str h h' => rw [h'] at hf; cases hf
    | sl e' ie h h' h2 h3 => rw [h'] at hf; cases hf
    | fn n ps rs v h h' => rw [h'] at hf; cases hf
    | st fs f' h h' hn h2 h3 =>
      rw [h'] at hf
      cases hf
      refine ⟨fs, h, fun j off g k => ?_⟩
      obtain ⟨fd, i', k1, k2, k3, k4⟩ := fldsOk_ty ht fs.toList f 0 h2 j off g k
      exact ⟨fd, i', by simpa using k1, k2, k3, k4⟩
  unfold UndOk
  cases tab_und ht e with
  | int k h h' => rw [h']; exact h
  | bool h h' => rw [h']; exact h
  | str h h' => rw [h']; exact h
  | sl e' ie h h' h2 h3 => rw [h']; exact ⟨h, ie, h2, h3⟩
  | fn n ps rs v h h' => rw [h']; exact ⟨ps, rs, v, h⟩
  | st fs f h h' hn h2 h3 =>
    rw [h']
    refine ⟨fs, h, hn, fun j p hj => ?_⟩
    obtain ⟨fd, i', k1, k2, k3, k4⟩ := h3 j p hj
    obtain ⟨inf, z, k5, k6, _⟩ := tab_info ht k3
    exact ⟨fd, inf, by simpa using k1, k2, k5, k6.trans k4⟩
end
end Go.Proofs.YtmjbedjnojcmfaaDoor.Ex

namespace Go.Proofs.YtmjbedjnojcmfaaDoor.Ex
set_option linter.unusedSectionVars false
section
variable [RT]

def cmpB (P : Program) (tab : List (TypeId × TInfo)) : Nat → TypeId → Ty → Bool
  | 0, _, _ => false
  | m + 1, t, τ => match P.underlying t, τ with
    | some (.int k), .int k' => decide (k = k')
    | some .bool, .bool => true
    | some .string, .str => true
    | some (.struct fs), .st _ => !P.stoodInHeld t && fs.toList.all fun fd => !(fd.name == "_") && match tiL tab fd.type with
      | some i => cmpB P tab m fd.type i.ty
      | none => false
    | _, _ => false

def cmpsB (P : Program) (tab : List (TypeId × TInfo)) : Bool := tab.all fun x => !x.2.cmp || (!P.eqGuardType P.depth x.1 && (isSt x.2.ty && cmpB P tab 8 x.1 x.2.ty))

section
variable {P : Program} {tab : List (TypeId × TInfo)} {w : World}

def EqAt (P : Program) (m : Nat) (t : TypeId) (τ : Ty) : Prop :=
  ∀ (d : Nat) (w : World) (hdr : Nat → Value) (S : Stb) (xs ys : List AV) (vs us : List Value) (b : Bool), VReps hdr S xs vs → VReps hdr S ys us → eqTy τ xs ys = some (b, [], []) → (Op.equalIn (d + m) t (packV τ vs) (packV τ us)).run P w = .ok b w

theorem eqTy_cut : ∀ (τ : Ty) (xs ys r s : List AV) (b : Bool), eqTy τ xs ys = some (b, r, s) → eqTy τ (xs.take τ.size) (ys.take τ.size) = some (b, [], []) ∧ r = xs.drop τ.size ∧ s = ys.drop τ.size ∧ τ.size ≤ xs.length ∧ τ.size ≤ ys.length := by
  intro τ
  induction τ with
  | int k =>
    intro xs ys r s b e
    have e : eInt xs ys = some (b, r, s) := e
    unfold eInt at e
    split at e
    · split at e
      · rename_i hk
        cases e
        refine ⟨?_, rfl, rfl, by simp [Ty.size], by simp [Ty.size]⟩
        simp [eqTy, eInt, Ty.size, hk]
      · cases e
    · cases e
  | bool =>
    intro xs ys r s b e
    have e : eBool xs ys = some (b, r, s) := e
    unfold eBool at e
    split at e
    · cases e
      refine ⟨?_, rfl, rfl, by simp [Ty.size], by simp [Ty.size]⟩
      simp [eqTy, eBool, Ty.size]
    · cases e
  | str =>
    intro xs ys r s b e
    have e : eStr xs ys = some (b, r, s) := e
    unfold eStr at e
    split at e
    · cases e
      refine ⟨?_, rfl, rfl, by simp [Ty.size], by simp [Ty.size]⟩
      simp [eqTy, eStr, Ty.size]
    · cases e
  | sl _ _ => intro xs ys r s b e; cases e
  | mu _ => intro xs ys r s b e; cases e
  | st f ih => intro xs ys r s b e; exact ih xs ys r s b e
  | pair a c iha ihc =>
    intro xs ys r s b e
    have e : ((eqTy a xs ys).bind fun p => (eqTy c p.2.1 p.2.2).bind fun q => some (p.1 && q.1, q.2.1, q.2.2)) = some (b, r, s) := e
    obtain ⟨⟨b1, r1, s1⟩, h1, e⟩ := Option.bind_eq_some_iff.1 e
    obtain ⟨⟨b2, r2, s2⟩, h2, e⟩ := Option.bind_eq_some_iff.1 e
    cases e
    obtain ⟨k1, rfl, rfl, k2, k3⟩ := iha xs ys r1 s1 b1 h1
    obtain ⟨k4, rfl, rfl, k5, k6⟩ := ihc _ _ _ _ _ h2
    simp only [List.length_drop] at k5 k6
    refine ⟨?_, by simp [Ty.size], by simp [Ty.size], by simp only [Ty.size]; omega, by simp only [Ty.size]; omega⟩
    show ((eqTy a (xs.take (a.size + c.size)) (ys.take (a.size + c.size))).bind fun p => (eqTy c p.2.1 p.2.2).bind fun q => some (p.1 && q.1, q.2.1, q.2.2)) = _
    -- the first part looks at no more than its own cells
    have grow : ∀ (τ : Ty) (x y r s : List AV) (b : Bool) (p q : List AV), eqTy τ x y = some (b, r, s) → eqTy τ (x ++ p) (y ++ q) = some (b, r ++ p, s ++ q) := by
      intro τ
      induction τ with
      | int k =>
        intro x y r s b p q e
        have e : eInt x y = some (b, r, s) := e
        unfold eInt at e
        split at e
        · split at e
          · rename_i hk; cases e; simp [eqTy, eInt, hk]
          · cases e
        · cases e
      | bool =>
        intro x y r s b p q e
        have e : eBool x y = some (b, r, s) := e
        unfold eBool at e
        split at e
        · cases e; simp [eqTy, eBool]
        · cases e
      | str =>
        intro x y r s b p q e
        have e : eStr x y = some (b, r, s) := e
        unfold eStr at e
        split at e
        · cases e; simp [eqTy, eStr]
        · cases e
      | sl _ _ => intro x y r s b p q e; cases e
      | mu _ => intro x y r s b p q e; cases e
      | st f ih => intro x y r s b p q e; exact ih x y r s b p q e
      | pair a c iha ihc =>
        intro x y r s b p q e
        have e : ((eqTy a x y).bind fun p => (eqTy c p.2.1 p.2.2).bind fun q => some (p.1 && q.1, q.2.1, q.2.2)) = some (b, r, s) := e
        obtain ⟨⟨b1, r1, s1⟩, h1, e⟩ := Option.bind_eq_some_iff.1 e
        obtain ⟨⟨b2, r2, s2⟩, h2, e⟩ := Option.bind_eq_some_iff.1 e
        cases e
        show ((eqTy a (x ++ p) (y ++ q)).bind fun p => (eqTy c p.2.1 p.2.2).bind fun q => some (p.1 && q.1, q.2.1, q.2.2)) = _
        rw [iha x y r1 s1 b1 p q h1, Option.bind_some, ihc r1 s1 r2 s2 b2 p q h2, Option.bind_some]
    have hx : xs.take (a.size + c.size) = xs.take a.size ++ (xs.drop a.size).take c.size := List.take_add
    have hy : ys.take (a.size + c.size) = ys.take a.size ++ (ys.drop a.size).take c.size := List.take_add
    rw [hx, hy, grow a _ _ _ _ _ _ _ k1, Option.bind_some, List.nil_append, List.nil_append, k4, Option.bind_some]

theorem size_pos : ∀ t : Ty, 0 < t.size
  | .int _ => Nat.one_pos
  | .bool => Nat.one_pos
  | .str => Nat.one_pos
  | .sl _ => Nat.one_pos
  | .mu _ => Nat.one_pos
  | .st f => size_pos f
  | .pair a _ => Nat.add_pos_left (size_pos a) _

theorem vreps_int {hdr : Nat → Value} {S : Stb} {k : IntKind} {n : Int} {vs : List Value} (h : VReps hdr S [.int k n] vs) : vs = [.int k n] := by
  cases h with | cons _ _ _ _ h1 h2 => cases h2; cases h1; rfl
theorem vreps_bool {hdr : Nat → Value} {S : Stb} {b : Bool} {vs : List Value} (h : VReps hdr S [.bool b] vs) : vs = [.bool b] := by
  cases h with | cons _ _ _ _ h1 h2 => cases h2; cases h1; rfl
theorem vreps_str {hdr : Nat → Value} {S : Stb} {b : ByteArray} {vs : List Value} (h : VReps hdr S [.str b] vs) : vs = [.string b] := by
  cases h with | cons _ _ _ _ h1 h2 => cases h2; cases h1; rfl

theorem run_part_pack {t : TypeId} {i : TInfo} (k : TyOk P tab t i) {vs : List Value} {off : Nat} (hl : off + i.ty.size ≤ vs.length) : (part t vs.toArray off).run P w = .ok (packV i.ty ((vs.drop off).take i.ty.size)) w := by
  unfold part
  simp only [Sem.run_bind, k.isAgg, Result.andThen_ok]
  cases e : isSt i.ty
  · have h1 := nonSt_size k rfl e
    rw [h1] at hl ⊢
    have hlt : off < vs.length := by omega
    have : (vs.drop off).take 1 = [vs[off]] := by
      rw [List.take_one, List.head?_drop, List.getElem?_eq_getElem hlt]; rfl
    simp [packV, e, this, hlt]
  · simp only [Sem.run_bind, k.sizeOf, Result.andThen_ok, if_true, Sem.run_pure, packV, e, cond_true]
    congr 2
    apply Array.ext'
    simp [Nat.add_sub_cancel_left]

theorem eqFields_run {m d : Nat} (htab : TabOk P tab) {vs us : List Value} {hdr : Nat → Value} {S : Stb} : ∀ (fs : List Field) (f : Ty) (off : Nat) (xs ys : List AV) (b : Bool), FldsOk P tab fs f off →
    (∀ fd ∈ fs, (fd.name == "_") = false ∧ ∀ i, tiL tab fd.type = some i → EqAt P m fd.type i.ty) → VReps hdr S xs (vs.drop off) → VReps hdr S ys (us.drop off) → eqTy f xs ys = some (b, [], []) →
    (Op.eqFields (d + m) vs.toArray us.toArray fs).run P w = .ok b w
  | [], _, _, _, _, _, h, _, _, _, _ => h.elim
  | [fd], f, off, xs, ys, b, h, hf, hx, hy, e => by
    obtain ⟨ho, i, hi, rfl⟩ := h
    obtain ⟨hn, he⟩ := hf fd (by simp)
    obtain ⟨k1, k2, k3, k4, k5⟩ := eqTy_cut _ _ _ _ _ _ e
    have hxl := hx.len
    have hyl := hy.len
    simp only [List.length_drop] at hxl hyl
    have hpos : 0 < i.ty.size := size_pos _
    have e1 := he i hi d w hdr S _ _ _ _ b (hx.take i.ty.size) (hy.take i.ty.size) k1
    unfold Op.eqFields
    have hne : fd.name ≠ "_" := by simpa using hn
    rw [if_pos hne, ho]
    simp only [Sem.run_bind, run_part_pack (w := w) (htab _ _ hi) (vs := vs) (off := off) (by omega), run_part_pack (w := w) (htab _ _ hi) (vs := us) (off := off) (by omega), Result.andThen_ok, e1]
    cases b <;> simp [Op.eqFields]
  | fd :: fd' :: r, f, off, xs, ys, b, h, hf, hx, hy, e => by
    obtain ⟨a, c, rfl, ho, ⟨i, hi, rfl⟩, hrest⟩ := h
    obtain ⟨hn, he⟩ := hf fd (by simp)
    have e : ((eqTy i.ty xs ys).bind fun p => (eqTy c p.2.1 p.2.2).bind fun q => some (p.1 && q.1, q.2.1, q.2.2)) = some (b, [], []) := e
    obtain ⟨⟨b1, r1, s1⟩, h1, e⟩ := Option.bind_eq_some_iff.1 e
    obtain ⟨⟨b2, r2, s2⟩, h2, e⟩ := Option.bind_eq_some_iff.1 e
    cases e
    obtain ⟨k1, rfl, rfl, k4, k5⟩ := eqTy_cut _ _ _ _ _ _ h1
    have hxl := hx.len
    have hyl := hy.len
    simp only [List.length_drop] at hxl hyl
    have hpos : 0 < i.ty.size := size_pos _
    have e1 := he i hi d w hdr S _ _ _ _ b1 (hx.take i.ty.size) (hy.take i.ty.size) k1
    have hx2 := hx.drop i.ty.size
    have hy2 := hy.drop i.ty.size
    rw [List.drop_drop] at hx2 hy2
    have ih := eqFields_run (d := d) htab (fd' :: r) c (off + i.ty.size) _ _ b2 hrest (fun g hg => hf g (List.mem_cons_of_mem _ hg)) hx2 hy2 h2
    unfold Op.eqFields
    have hne : fd.name ≠ "_" := by simpa using hn
    rw [if_pos hne, ho]
    simp only [Sem.run_bind, run_part_pack (w := w) (htab _ _ hi) (vs := vs) (off := off) (by omega), run_part_pack (w := w) (htab _ _ hi) (vs := us) (off := off) (by omega), Result.andThen_ok, e1]
    cases b1
    · simp
    · simp [ih]

theorem eqAt_of (ht : tabB P tab = true) : ∀ (m : Nat) (t : TypeId) (i : TInfo), tiL tab t = some i → cmpB P tab m t i.ty = true → EqAt P m t i.ty
  | 0, _, _, _, e => by cases e
  | m + 1, t, i, hi, e => by
    intro d w hdr S xs ys vs us b hx hy he
    have htab := tabOk_of ht
    unfold cmpB at e
    cases tab_und ht hi with
    | int k h h' =>
      rw [h'] at he ⊢
      have he : eInt xs ys = some (b, [], []) := he
      unfold eInt at he
      split at he
      · split at he
        · rename_i k1 a r k2 c s hk
          subst hk
          cases he
          rw [vreps_int hx, vreps_int hy]
          exact run_equalIn_int w _ t _ k _ _ h
        · cases he
      · cases he
    | bool h h' =>
      rw [h'] at he ⊢
      have he : eBool xs ys = some (b, [], []) := he
      unfold eBool at he
      split at he
      · cases he
        rw [vreps_bool hx, vreps_bool hy]
        exact run_equalIn_bool' w _ t _ _ h
      · cases he
    | str h h' =>
      rw [h'] at he ⊢
      have he : eStr xs ys = some (b, [], []) := he
      unfold eStr at he
      split at he
      · cases he
        rw [vreps_str hx, vreps_str hy]
        exact run_equalIn_string w _ t _ _ h
      · cases he
    | sl e' ie h h' h2 h3 => rw [h'] at he; cases he
    | fn n ps rs v h h' => rw [h'] at he; cases he
    | st fs f h h' hn h2 h3 =>
      rw [h'] at he e ⊢
      simp only [h, Bool.and_eq_true, List.all_eq_true] at e
      obtain ⟨hs, hall⟩ := e
      have hfo : P.fieldsOf t = fs := by simp [Program.fieldsOf, h]
      have hp : P.stoodInHeld t = false := by simpa using hs
      show (Op.equalIn ((d + m) + 1) t (.agg vs.toArray) (.agg us.toArray)).run P w = _
      rw [run_equalIn_agg w (d + m) t _ _ (by rw [hfo]; exact h) hp, hfo]
      refine eqFields_run htab fs.toList f 0 xs ys b h2 (fun fd hfd => ?_) (by simpa using hx) (by simpa using hy) he
      have := hall fd hfd
      refine ⟨by simpa using this.1, fun j hj => ?_⟩
      have h4 := this.2
      rw [hj] at h4
      exact eqAt_of ht m fd.type j hj h4

theorem cmpsOk_of (ht : tabB P tab = true) (hc : cmpsB P tab = true) : CmpsOk P tab := fun t i hi hcm => by
  have := List.all_eq_true.1 hc _ (tiL_mem hi)
  simp only [hcm, Bool.not_true, Bool.false_or, Bool.and_eq_true] at this
  obtain ⟨h1, h2, h3⟩ := this
  refine ⟨by simpa using h1, fun w hdr S xs ys vs us b hx hy he => ?_⟩
  have := eqAt_of ht 8 t i hi h3 9992 w hdr S xs ys vs us b hx hy (by
    unfold eqAgg at he
    split at he
    · rename_i b' h; cases he; exact h
    · cases he)
  simpa [packV, h2] using this
end
end
end Go.Proofs.YtmjbedjnojcmfaaDoor.Ex

namespace Go.Proofs.YtmjbedjnojcmfaaDoor.Ex
set_option linter.unusedSectionVars false
section
variable [RT]

def noMu : Ty → Bool
  | .mu _ => false
  | .sl e => noMu e
  | .st f => noMu f
  | .pair a b => noMu a && noMu b
  | _ => true

theorem noMu_e : ∀ e : Ty, noMu e = true → eTy e = e
  | .int _, _ => rfl
  | .bool, _ => rfl
  | .str, _ => rfl
  | .sl _, _ => rfl
  | .st _, _ => rfl
  | .pair _ _, _ => rfl

theorem eVal_rep {S : Stb} : ∀ {e : Ty} {cs : List Value} {d : D e}, DRep S e cs d → noMu e = true → DRep S (eTy e) cs (eVal e d)
  | .int _, _, _, h, _ => h
  | .bool, _, _, h, _ => h
  | .str, _, _, h, _ => h
  | .sl _, _, _, h, _ => h
  | .st _, _, _, h, _ => h
  | .pair _ _, _, _, h, _ => h
  | .mu _, _, _, _, h => nomatch h

section
variable {P : Program} {tab : List (TypeId × TInfo)} {W : World} {H : Type} {enc : TypeId × Value → H} {sp : Nat → Bool}

theorem cells_at {a : Addr} {n : Nat} {cs : List Value} (h : W.cells? 0 a n = some cs) : cs.length = n ∧ ∀ j, j < n → W.cell? (a.add j) = cs[j]? := by
  unfold World.cells? at h
  rw [if_pos (Nat.zero_le _)] at h
  refine ⟨by simpa using mapM_some_length h, fun j hj => ?_⟩
  have := mapM_some_get h j j (by simp [hj])
  exact this

theorem cell_block {a : Addr} {v : Value} (h : W.cell? a = some v) : a.spot = none ∧ ∃ c, allS W a.block = some c ∧ c[a.off]? = some v := by
  unfold World.cell? at h
  split at h
  · rename_i c t fr hb
    cases hs : a.spot with
    | none =>
      simp only [hs, Option.isSome_none, Bool.false_eq_true, if_false] at h
      exact ⟨rfl, c, by simp [allS, hb], h⟩
    | some s => simp [hs] at h
  · cases h

theorem cellsOf_tab (ht : tabB P tab = true) {t : TypeId} {i : TInfo} (e : tiL tab t = some i) : P.cellsOf t = i.ty.size := by
  obtain ⟨inf, z, h1, h2, _⟩ := tab_info ht e
  simp [Program.cellsOf, h1, h2]

end
end
end Go.Proofs.YtmjbedjnojcmfaaDoor.Ex

namespace Go.Proofs.YtmjbedjnojcmfaaDoor.Ex
set_option linter.unusedSectionVars false
section
variable [RT]

def DArgs : List Ty → Type
  | [] => Unit
  | t :: ts => D t × DArgs ts

def avs : (ts : List Ty) → DArgs ts → List AV
  | [], _ => []
  | t :: ts, x => pack t (expand t x.1) :: avs ts x.2

def tysOf (tab : List (TypeId × TInfo)) : List TypeId → Option (List Ty)
  | [] => some []
  | t :: r => (tiL tab t).bind fun i => bif noMu i.ty then (tysOf tab r).map (i.ty :: ·) else none

theorem pack_ids0 (t : Ty) (d : D t) : (pack t (expand t d)).ids = [] := by
  rw [List.eq_nil_iff_forall_not_mem]
  intro n hn
  have := pack_ids hn
  rw [expand_ids] at this
  cases this

theorem avs_ids : ∀ (ts : List Ty) (x : DArgs ts), AV.idsL (avs ts x) = []
  | [], _ => rfl
  | t :: ts, x => by rw [avs, AV.idsL, pack_ids0, avs_ids ts x.2]; rfl

section
variable {P : Program} {tab : List (TypeId × TInfo)} {W : World} {H : Type} {enc : TypeId × Value → H}

theorem trodAll_stay (hl : laidOutB P = true) {W' : World} {sp' : Nat → Bool} : ∀ (ts : List TypeId) (vs : List Value) (ds : List (DataW H)) (ps : List MemPlace), (∀ t ∈ ts, P.readableRec t = true ∧ t < P.types.size) →
    DataW.TrodAll enc P W 0 (fun _ => true) true ts vs ds ps → (∀ p ∈ ps, W.sameAt W' p) → (∀ p ∈ ps, sp' p.block = true) → DataW.TrodAll enc P W' 0 sp' true ts vs ds ps
  | [], vs, ds, ps, _, h, _, _ => by
    obtain ⟨rfl, rfl, rfl⟩ := ChangeShapes.trodAll_nil h
    rfl
  | t :: ts, vs, ds, ps, hr, h, hs, hp => by
    obtain ⟨v, vs', d, ds', p, q, rfl, rfl, rfl, h1, h2⟩ := ChangeShapes.trodAll_cons h
    have k := hr t List.mem_cons_self
    refine ⟨p, q, WideElems.Trod_stays hl k.1 k.2 h1 (fun x hx => hs x (List.mem_append_left _ hx)) (fun x hx => hp x (List.mem_append_left _ hx)), ?_, rfl⟩
    exact trodAll_stay hl ts vs' ds' q (fun u hu => hr u (List.mem_cons_of_mem _ hu)) h2 (fun x hx => hs x (List.mem_append_right _ hx)) fun x hx => hp x (List.mem_append_right _ hx)

theorem post_of_below {f : Func} {s : ChangeSpec} {apart fresh handsOn again : Bool} {W W' : World} {args : Array Value} {v : Value} {ds gs : List (DataW H)} {before pa pv : List MemPlace}
    (hW : DataW.Whole enc P f.params.toList s.vars apart W args.toList ds gs before)
    (hres : ∀ (b : Nat) (sp : Nat → Bool) (hd : Bool), DataW.TrodAll enc P W' b sp hd f.resultTypes.toList (v.resultList f.resultTypes.size) (s.fn H (ds ++ gs)).results [])
    (hargs : ∀ sp : Nat → Bool, (∀ p ∈ before, sp p.block = true) → DataW.TrodAll enc P W' 0 sp true f.params.toList args.toList (s.fn H (ds ++ gs)).args pa)
    (hvars : ∀ sp : Nat → Bool, (∀ p ∈ before, sp p.block = true) → DataW.TrodVars enc P W' sp s.vars (s.fn H (ds ++ gs)).vars pv)
    (hps : before = pa ++ pv) (hk : RowKit.Below W.heap.size W W')
    (hok : ∀ (j : Nat) (t : TypeId) (r : Value), f.resultTypes[j]? = some t → (v.resultList f.resultTypes.size)[j]? = some r → Value.okWide P W' .any 0 t r) :
    s.post enc P f apart fresh handsOn again W args v W' := by
  have hold : ∀ p ∈ before, (fun b => decide (b < W.heap.size)) p.block = true := fun p hp => by simpa using hW.lt p hp
  have hlt : ∀ p ∈ before, p.block < W.heap.size := fun p hp => hW.lt p hp
  refine ⟨ds, gs, before, [], pa, pv, hW, hres _ _ _, hargs _ hold, hvars _ hold, World.keptBut_mono (fun p hp => ⟨hp, ?_⟩) (hk.frame (· ∈ before)), fun _ => ?_⟩
  · rw [hps, List.mem_append] at hp
    exact Or.inr hp
  · obtain ⟨_, _, _, _, _, hz, hn⟩ := hW
    refine ⟨hok, _, _, ([] ++ pa) ++ pv, ⟨[] ++ pa, pv, ChangeShapes.trodAll_append (hargs _ (fun _ _ => rfl)) (hres _ _ _), hvars _ (fun _ _ => rfl), rfl, ?_, ?_⟩, ?_⟩
    · intro b off hp
      have hp' : MemPlace.cell b off ∈ before := by rw [hps]; simpa using hp
      rw [hk.frozen (hlt _ hp')]
      exact hz b off hp'
    · intro ha
      have := hn ha
      rw [hps] at this
      simpa using this
    · intro p hp _
      rw [hps]
      simpa using hp

end
end
end Go.Proofs.YtmjbedjnojcmfaaDoor.Ex

namespace Go.Proofs.YtmjbedjnojcmfaaDoor.Ex
set_option linter.unusedSectionVars false
section
variable [RT] {P : Program}
section
variable {ok : Nat → Prop} {hdr0 hdr : Nat → Value} {S0 S : Stb} {h0 h : Hp} {w0 w : World} {a0 a : Act} {T : Tm}
end

def pickS (c : List AV → Bool) (p q : List AV → Prog AV) (args : List AV) : Prog AV := bif c args then p args else q args
theorem SoundA.pick {g : FuncId} {p q : List AV → Prog AV} (c : List AV → Bool) (hp : SoundA P g p) (hq : SoundA P g q) : SoundA P g (pickS c p q) := by
  intro tr args h ft v h' ft' vals hdr S w ok e
  unfold pickS at e
  cases hc : c args <;> rw [hc] at e
  · exact hq tr args h ft v h' ft' vals hdr S w ok e
  · exact hp tr args h ft v h' ft' vals hdr S w ok e
end
end Go.Proofs.YtmjbedjnojcmfaaDoor.Ex

namespace Go.Proofs.YtmjbedjnojcmfaaDoor.Ex
set_option linter.unusedSectionVars false
section
variable [RT]
def posB (tab : List (TypeId × TInfo)) : Bool := tab.all fun p => leB 1 p.2.bytes
def DOkS (B : Nat) : (t : Ty) → D t → Prop
  | .int k, n => (Lit.int k n).wf = true
  | .bool, _ => True
  | .str, s => s.size ≤ maxLen
  | .sl e, l => List.length (α := D e) l ≤ B ∧ ∀ x : D e, List.Mem x l → DOkS B e x
  | .mu _, _ => True
  | .st f, d => DOkS B f d
  | .pair a b, d => DOkS B a d.1 ∧ DOkS B b d.2
def DOksS (B : Nat) : (ts : List Ty) → DArgs ts → Prop
  | [], _ => True
  | t :: ts, x => DOkS B t x.1 ∧ DOksS B ts x.2
section
variable {P : Program} {tab : List (TypeId × TInfo)} {W : World} {H : Type} {enc : TypeId × Value → H} {sp : Nat → Bool} {B : Nat}
theorem bytes_pos (ht : tabB P tab = true) (hpos : posB tab = true) {t : TypeId} {i : TInfo} (e : tiL tab t = some i) : 0 < P.bytesOf t := by
  obtain ⟨inf, z, h1, _, h3, _⟩ := tab_info ht e
  have := List.all_eq_true.1 hpos _ (tiL_mem e)
  have := leB_iff.1 this
  simp only at this
  simp only [Program.bytesOf, h1]
  simp
  omega
theorem weights_mem_all {e : TypeId} {d : DataW H} {n : Nat} : ∀ {l : List (DataW H)}, d ∈ l → n ∈ d.weights P e → n ∈ DataW.weightsAll P e l
  | [], h, _ => by cases h
  | x :: r, h, k => by
    simp only [DataW.weightsAll, List.mem_append]
    rcases List.mem_cons.1 h with rfl | h
    · exact .inl k
    · exact .inr (weights_mem_all h k)
theorem weights_sub {n : Nat} {us : List TypeId} {es : List (DataW H)} : ∀ {ts : List TypeId} {ds : List (DataW H)}, n ∈ DataW.weightsEach P ts ds → n ∈ DataW.weightsEach P (ts ++ us) (ds ++ es)
  | [], _, h => by simp [DataW.weightsEach] at h
  | _ :: _, [], h => by simp [DataW.weightsEach] at h
  | t :: ts, d :: ds, h => by
    simp only [DataW.weightsEach, List.cons_append, List.mem_append] at h ⊢
    exact h.imp id weights_sub
theorem flds_readS (ht : tabB P tab = true) {n : Nat} (ih : ∀ (t : TypeId) (i : TInfo) (cs : List Value) (x : DataW H × List MemPlace), tiL tab t = some i → noMu i.ty = true → DataW.trod enc P W 0 sp true n t cs = some x → (∀ w ∈ x.1.weights P t, w ≤ B) → ∃ d : D i.ty, DRep (allS W) i.ty cs d ∧ DOkS B i.ty d)
    {cs : List Value} : ∀ (fs : List Field) (f : Ty) (off : Nat), FldsOk P tab fs f off → noMu f = true → (cs.drop off).length = f.size → (∀ fd ∈ fs, ∃ x, DataW.trod enc P W 0 sp true n fd.type ((cs.drop fd.offset).take (P.cellsOf fd.type)) = some x ∧ ∀ w ∈ x.1.weights P fd.type, w ≤ B) → ∃ d : D f, DRep (allS W) f (cs.drop off) d ∧ DOkS B f d
  | [], _, _, h, _, _, _ => h.elim
  | [fd], f, off, h, hm, hl, hx => by
    obtain ⟨ho, i, hi, rfl⟩ := h
    obtain ⟨x, hx, hz⟩ := hx fd (by simp)
    rw [ho, cellsOf_tab ht hi, List.take_of_length_le (by omega)] at hx
    exact ih _ i _ x hi hm hx hz
  | fd :: fd' :: r, f, off, h, hm, hl, hx => by
    obtain ⟨a, b, rfl, ho, ⟨i, hi, rfl⟩, hr⟩ := h
    simp only [noMu, Bool.and_eq_true] at hm
    simp only [Ty.size] at hl
    obtain ⟨x, hx0, hz0⟩ := hx fd (by simp)
    rw [ho, cellsOf_tab ht hi] at hx0
    obtain ⟨d1, k1, k2⟩ := ih _ i _ x hi hm.1 hx0 hz0
    obtain ⟨d2, k3, k4⟩ := flds_readS ht ih (fd' :: r) b (off + i.ty.size) hr hm.2 (by rw [← List.drop_drop, List.length_drop]; omega) fun g hg => hx g (List.mem_cons_of_mem _ hg)
    rw [← List.drop_drop] at k3
    have := DRep.pair i.ty b _ _ d1 d2 k1 k3
    rw [List.take_append_drop] at this
    exact ⟨(d1, d2), this, k2, k4⟩

theorem read_dataS (ht : tabB P tab = true) (hpos : posB tab = true) : ∀ (n : Nat) (t : TypeId) (i : TInfo) (cs : List Value) (x : DataW H × List MemPlace), tiL tab t = some i → noMu i.ty = true → DataW.trod enc P W 0 sp true n t cs = some x → (∀ w ∈ x.1.weights P t, w ≤ B) → ∃ d : D i.ty, DRep (allS W) i.ty cs d ∧ DOkS B i.ty d
  | 0, _, _, _, _, _, _, h, _ => by simp [DataW.trod] at h
  | n + 1, t, i, cs, x, hi, hm, h, hz => by
    have ih := read_dataS ht hpos n
    cases tab_und ht hi with
    | int k hu h' =>
      obtain ⟨m, rfl, _, hw⟩ := DataW.trod_int hu h
      rw [h']
      exact ⟨m, .int k m, hw⟩
    | bool hu h' =>
      obtain ⟨b, rfl, _⟩ := DataW.trod_bool hu h
      rw [h']
      exact ⟨b, .bool b, trivial⟩
    | str hu h' =>
      obtain ⟨s, rfl, _, hw⟩ := DataW.trod_string hu h
      rw [h']
      exact ⟨s, .str s, hw⟩
    | st fs f hu h' hn h2 h3 =>
      obtain ⟨xs, m, hm', hxe, hl, hxl, hx⟩ := DataW.trod_struct hu h
      obtain rfl : n = m := by omega
      rw [cellsOf_tab ht hi, h'] at hl
      rw [h'] at hm ⊢
      obtain ⟨d, k1, k2⟩ := flds_readS (cs := cs) ht ih fs.toList f 0 h2 hm (by simpa [Ty.size] using hl) fun fd hfd => by
        obtain ⟨j, hj, rfl⟩ := List.mem_iff_getElem.1 hfd
        have hj' : j < xs.length := by rw [hxl]; simpa using hj
        exact ⟨xs[j], by rw [hx j _ (by simp [Array.getElem?_eq_getElem (show j < fs.size by simpa using hj)]), List.getElem?_eq_getElem hj'], fun w hw => hz w (by rw [hxe]; simp only [DataW.weights, hu]; exact DataW.weights_mem_each (j := j) (t := fs.toList[j].type) (d := xs[j].1) (by simp [show j < fs.size by simpa using hj]) (by simp [hj']) w hw)⟩
      exact ⟨d, .st f _ d k1, k2⟩
    | fn k ps rs v hu h' => rw [h'] at hm; cases hm
    | sl e' ie hu h' h2 h3 =>
      rw [h'] at hm ⊢
      have hee : eTy e' = e' := noMu_e e' hm
      rcases DataW.trod_slice hu h with ⟨rfl, _⟩ | ⟨a, len, cap, elems, rest, m, hm', rfl, hxe, _, hlc, hcm, hel, hget, _, _⟩
      · exact ⟨([] : List (D e')), .slNil e' none 0, Nat.zero_le _, fun x hx => nomatch hx⟩
      · obtain rfl : n = m := by omega
        have hzs : ∀ w ∈ (elems.length + rest.length) * P.bytesOf i.elem :: (DataW.weightsAll P i.elem (elems.map (·.1)) ++ DataW.weightsAll P i.elem (rest.map (·.1))), w ≤ B := fun w hw => hz w (by rw [hxe]; simp only [DataW.weights, hu, List.length_map]; exact hw)
        have hlenB : elems.length ≤ B := by
          have h1 := hzs _ List.mem_cons_self
          have h2 := bytes_pos ht hpos h2
          exact Nat.le_trans (Nat.le_trans (Nat.le_add_right _ _) (Nat.le_mul_of_pos_right _ h2)) h1
        have hc : P.cellsOf i.elem = e'.size := by rw [cellsOf_tab ht h2, h3, hee]
        have each : ∀ j, j < len → ∃ (cj : List Value) (d : D e'), W.cells? 0 (a.add (j * e'.size)) e'.size = some cj ∧ DRep (allS W) e' cj d ∧ DOkS B e' d := fun j hj => by
          have hje : j < elems.length := by omega
          have := hget j hj
          rw [hc, List.getElem?_eq_getElem hje, Option.bind_eq_some_iff] at this
          obtain ⟨cj, k1, k2⟩ := this
          obtain ⟨d, k3, k4⟩ := ih i.elem ie cj _ h2 (by rw [h3, hee]; exact hm) k2 (fun w hw => hzs w (List.mem_cons_of_mem _ (List.mem_append_left _ (weights_mem_all (List.mem_map.2 ⟨elems[j], List.getElem_mem hje, rfl⟩) hw))))
          have hty : ie.ty = e' := h3.trans hee
          subst hty
          exact ⟨cj, d, k1, k3, k4⟩
        cases len with
        | zero => exact ⟨([] : List (D e')), .slNil e' (some a) cap, Nat.zero_le _, fun x hx => nomatch hx⟩
        | succ len =>
          have hpos := size_pos e'
          -- the block
          obtain ⟨c0, d0, k1, _, _⟩ := each 0 (Nat.succ_pos _)
          obtain ⟨l0, g0⟩ := cells_at k1
          have hg0 := g0 0 hpos
          rw [List.getElem?_eq_getElem (by omega)] at hg0
          simp only [Nat.zero_mul, Addr.add, if_true] at hg0
          obtain ⟨hs, cells, hcells, _⟩ := cell_block hg0
          have each' : ∀ j, ∃ (cj : List Value) (d : D e'), j < len + 1 → W.cells? 0 (a.add (j * e'.size)) e'.size = some cj ∧ DRep (allS W) e' cj d ∧ DOkS B e' d := fun j => by
            by_cases hj : j < len + 1
            · obtain ⟨cj, d, k⟩ := each j hj; exact ⟨cj, d, fun _ => k⟩
            · exact ⟨[], d0, fun k => absurd k hj⟩
          let cf : Nat → List Value := fun j => Classical.choose (each' j)
          let df : Nat → D e' := fun j => Classical.choose (Classical.choose_spec (each' j))
          have hcd : ∀ j, j < len + 1 → W.cells? 0 (a.add (j * e'.size)) e'.size = some (cf j) ∧ DRep (allS W) e' (cf j) (df j) ∧ DOkS B e' (df j) := fun j => Classical.choose_spec (Classical.choose_spec (each' j))
          let l : List (D e') := (List.range (len + 1)).map df
          have hl : l.length = len + 1 := by simp [l]
          have hlj : ∀ j (hj : j < l.length), l[j] = df j := fun j hj => by simp [l]
          have hcell : ∀ j k, j < len + 1 → k < e'.size → cells[a.off + j * e'.size + k]? = (cf j)[k]? := fun j k hj hk => by
            obtain ⟨l1, g1⟩ := cells_at (hcd j hj).1
            have := g1 k hk
            rw [List.getElem?_eq_getElem (by omega)] at this ⊢
            obtain ⟨_, c2, hc2, hv⟩ := cell_block this
            have hb : ((a.add (j * e'.size)).add k).block = a.block := by unfold Addr.add; split <;> split <;> rfl
            have ho : ((a.add (j * e'.size)).add k).off = a.off + j * e'.size + k := by unfold Addr.add; split <;> split <;> simp_all
            rw [hb, hcells] at hc2
            cases hc2
            rw [ho] at hv
            exact hv
          have haddr : a = ⟨a.block, a.off, none⟩ := by cases a; simp_all
          have key := DRep.sl (S := allS W) e' a.block a.off cap l cells cf hcells (by omega) (fun j hj => by rw [hee]; exact (cells_at (hcd j (by omega)).1).1) (fun j k hj hk => by
            rw [hee] at hk
            have := hcell j k (by omega) hk
            rwa [hee]) (fun j hj => by
            have h1 := (hcd j (by omega)).2.1
            rw [hlj]
            exact eVal_rep h1 hm)
          rw [hl, ← haddr] at key
          refine ⟨l, key, by rw [hl]; omega, fun x hx => ?_⟩
          have hx : x ∈ l := hx
          simp only [l, List.mem_map, List.mem_range] at hx
          obtain ⟨j, hj, rfl⟩ := hx
          exact (hcd j hj).2.2
theorem read_valueS (ht : tabB P tab = true) (hpos : posB tab = true) {t : TypeId} {i : TInfo} {v : Value} {d : DataW H} {ps : List MemPlace} {base : Nat} {hdr : Nat → Value} (hi : tiL tab t = some i) (hm : noMu i.ty = true)
    (h : DataW.Trod enc P W 0 (fun _ => true) true t v d ps) (hv : Value.okWide P W .any base t v) (hz : ∀ w ∈ d.weights P t, w ≤ B) : ∃ x : D i.ty, VRep hdr (allS W) (pack i.ty (expand i.ty x)) v ∧ DOkS B i.ty x := by
  obtain ⟨n, hn⟩ := h
  obtain ⟨x, h1, h2⟩ := read_dataS ht hpos n t i _ _ hi hm hn hz
  refine ⟨x, ?_, h2⟩
  have h3 := h1.expand (hdr := hdr)
  have hp := pack_rep i.ty h3
  suffices packV i.ty v.cells.toList = v by rwa [this] at hp
  unfold Value.okWide at hv
  cases tab_und ht hi with
  | int k hu h' =>
    simp only [hu, Cell.okWide, Cell.ok] at hv
    split at hv <;> first | exact hv.elim | skip
    all_goals simp_all [packV, isSt, Value.cells]
  | bool hu h' =>
    simp only [hu, Cell.okWide, Cell.ok] at hv
    split at hv <;> first | exact hv.elim | skip
    all_goals simp_all [packV, isSt, Value.cells]
  | str hu h' =>
    simp only [hu, Cell.okWide, Cell.ok] at hv
    split at hv <;> first | exact hv.elim | skip
    all_goals simp_all [packV, isSt, Value.cells]
  | fn k ps rs v hu h' => rw [h'] at hm; cases hm
  | sl e' ie hu h' _ _ =>
    simp only [hu, Cell.okWide, Cell.ok] at hv
    split at hv <;> first | exact hv.elim | skip
    all_goals simp_all [packV, isSt, Value.cells]
  | st fs f hu h' hn' _ _ =>
    simp only [hu] at hv
    obtain ⟨cs, rfl, _⟩ := hv
    simp [packV, h', isSt, Value.cells]

theorem read_allS (ht : tabB P tab = true) (hpos : posB tab = true) {base : Nat} {hdr : Nat → Value} : ∀ (ts : List TypeId) (tys : List Ty) (vs : List Value) (ds : List (DataW H)) (ps : List MemPlace), tysOf tab ts = some tys →
    DataW.TrodAll enc P W 0 (fun _ => true) true ts vs ds ps → (∀ (j : Nat) (t : TypeId) (v : Value), ts[j]? = some t → vs[j]? = some v → Value.okWide P W .any base t v) → (∀ w ∈ DataW.weightsEach P ts ds, w ≤ B) →
    ∃ x : DArgs tys, VReps hdr (allS W) (avs tys x) vs ∧ DOksS B tys x
  | [], tys, vs, ds, ps, e, h, _, _ => by
    cases e
    obtain ⟨rfl, rfl, rfl⟩ := ChangeShapes.trodAll_nil h
    exact ⟨(), .nil, trivial⟩
  | t :: ts, tys, vs, ds, ps, e, h, hv, hz => by
    rw [tysOf] at e
    obtain ⟨i, hi, e⟩ := Option.bind_eq_some_iff.1 e
    cases hm : noMu i.ty <;> rw [hm] at e
    · cases e
    obtain ⟨tys', e', rfl⟩ := Option.map_eq_some_iff.1 e
    obtain ⟨v, vs', d, ds', p, q, rfl, rfl, rfl, h1, h2⟩ := ChangeShapes.trodAll_cons h
    obtain ⟨x, k1, k2⟩ := read_valueS (hdr := hdr) ht hpos hi hm h1 (hv 0 t v rfl rfl) (fun w hw => hz w (by simp only [DataW.weightsEach, List.mem_append]; exact .inl hw))
    obtain ⟨y, k3, k4⟩ := read_allS ht hpos ts tys' vs' ds' q e' h2 (fun j t v hj hv' => hv (j + 1) t v (by simpa using hj) (by simpa using hv')) (fun w hw => hz w (by simp only [DataW.weightsEach, List.mem_append]; exact .inr hw))
    exact ⟨(x, y), .cons _ _ _ _ k1 k3, k2, k4⟩
theorem law_callsS (ht : tabB P tab = true) (hpos : posB tab = true) (hl : laidOutB P = true) {g : FuncId} {fn : Func} {q : List AV → Prog AV} {fz : Bool} (hq : SoundA P g q) {s : ChangeSpec} {apart fresh handsOn again : Bool} {tys : List Ty}
    (hty : tysOf tab fn.params.toList = some tys) (hrd : fn.params.toList.all (fun t => P.readableRec t && decide (t < P.types.size)) = true) {tb : TypeId} (hres : fn.resultTypes = #[tb]) (htb : P.underlying tb = some .bool)
    (hvars : s.vars = []) (hfn : ∀ ds : List (DataW H), ds.length = fn.params.toList.length → s.fn H ds = { results := [.lit (.bool true)], args := ds, vars := [] })
    (law : ∀ x : DArgs tys, DOksS reachBytes tys x → ∃ fb, ex ((q (avs tys x)).bind (finP fz)) false ⟨[], 0⟩ ⟨[], []⟩ = some (.bool true, ⟨[], 0⟩, fb))
    {base : Nat} {args : Array Value} {ds gs : List (DataW H)} {before : List MemPlace} (hval : ∀ (j : Nat) t v, fn.params[j]? = some t → args[j]? = some v → Value.okWide P W .any base t v)
    (hW : DataW.Whole enc P fn.params.toList s.vars apart W args.toList ds gs before) {us : List TypeId} (hz : (DataW.weightsEach P (fn.params.toList ++ us) (ds ++ gs)).all (· ≤ reachBytes) = true) :
    Calls P g args W fun e W' => ∃ v, e = .returned v ∧ s.post enc P fn apart fresh handsOn again W args v W' := by
  have hW' := hW
  obtain ⟨p, q', hA, hV, rfl, hfz, hnd⟩ := hW
  rw [hvars] at hV
  obtain ⟨rfl, rfl⟩ : gs = [] ∧ q' = [] := by
    cases gs with
    | nil => exact ⟨rfl, hV⟩
    | cons _ _ => exact hV.elim
  let hdr : Nat → Value := fun _ => undef
  obtain ⟨x, k1, k2⟩ := read_allS (B := reachBytes) (hdr := hdr) ht hpos _ tys _ ds p hty hA (fun j t v hj hv => hval j t v (by simpa using hj) (by simpa using hv)) (fun w hw => by simpa using List.all_eq_true.1 hz w (weights_sub hw))
  obtain ⟨fb, hex⟩ := law x k2
  obtain ⟨_, hc⟩ := core (S := allS W) (hdr := hdr) (hq.at _) (fun n c k => allS_mem k) k1 (avs_ids tys x) hex
  have hc : Calls P g args W _ := hc
  refine hc.mono ?_
  rintro e W' ⟨u, hdr', S', rfl, post, hv, _⟩
  cases hv
  have st := post.step
  have hb : RowKit.Below W.heap.size W W' := ⟨st.os, st.tape, st.output, st.size, fun k hk => st.frame k hk fun ⟨id, b, hf, _⟩ => nomatch hf⟩
  have hlen := (Go.trodAll_length hA).2
  have hf := hfn (ds ++ []) (by rw [List.append_nil]; exact hlen)
  refine ⟨_, rfl, post_of_below (pa := p) (pv := []) hW' (fun b sp hd => ?_) (fun sp hsp => ?_) (fun sp _ => ?_) rfl hb (RowKit.ok_one hres rfl (RowKit.okWide_bool_mk htb true))⟩
  · rw [hres, hf]
    exact ChangeShapes.trodAll_mk1 (RowKit.shut_bool htb true)
  · rw [hf, List.append_nil]
    refine trodAll_stay hl _ _ _ _ (fun t ht' => ?_) hA (fun pl hp => hb.same ?_) fun pl hp => hsp pl (by simpa using hp)
    · have := List.all_eq_true.1 hrd t ht'
      simp only [Bool.and_eq_true, decide_eq_true_eq] at this
      exact this
    · exact hA.lt pl hp
  · rw [hvars, hf]
    rfl
end
end
end Go.Proofs.YtmjbedjnojcmfaaDoor.Ex

