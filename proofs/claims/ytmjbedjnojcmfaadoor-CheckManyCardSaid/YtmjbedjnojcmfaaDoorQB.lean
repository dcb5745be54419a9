/- A part of the proofs of which programs may be: QB. -/
import Derived.Test.YtmjbedjnojcmfaaDoorQA
import Derived.Laws.StructEq
import Derived.Laws.MakeOwn
import Derived.Laws.Append
import Derived.Laws.BytesString
namespace Go.Proofs.YtmjbedjnojcmfaaDoor.Ex
set_option linter.unusedSectionVars false
section
variable [RT] {P : Program} {cx : Ctx} {cal : FuncId → List AV → Prog AV} {o : Oper} {a : Act} {w : World} {T : Tm} {tr : Bool} {ok : Nat → Prop} {hdr : Nat → Value} {S : Stb} {h h' : Hp} {f f' : Foot} {v : AV}

structure Pre (P : Program) (tr : Bool) (ok : Nat → Prop) (hdr : Nat → Value) (S : Stb) (h : Hp) (w : World) (T : Tm) (a : Act) : Prop where
  real : HReal hdr S h.blks w
  ment : Ment ok h.blks
  tmps : TReal hdr S T a.tmps
  tok : TOk ok T

theorem sat_move (pre : Pre P tr ok hdr S h w T a) {x : Operand} (ho : execOp a.eval o = pure (.value (a.eval x))) (e : ex (.ret (evO T x)) tr h f = some (v, h', f')) :
    Sat P o a w tr ok hdr S h h' v := by
  cases ex_ret e
  exact Sat.pure pre.real pre.ment (by rw [ho]; rfl) (evO_rep pre.tmps x) (evO_ids pre.tok x)

theorem sat_pick (pre : Pre P tr ok hdr S h w T a) {c x y : Operand} (ho : o.op = .pick c x y) (e : ex (opP cx cal T o) tr h f = some (v, h', f')) : Sat P o a w tr ok hdr S h h' v := by
  simp only [opP, ho] at e
  have hc := evO_rep pre.tmps c
  split at e
  · rename_i b hb
    rw [hb] at hc
    generalize hcv : a.eval c = cv at hc
    cases hc
    rcases ex_ite e with ⟨rfl, e⟩ | ⟨rfl, e⟩
    · cases ex_ret e
      exact Sat.pure pre.real pre.ment (by simp [execOp, ho, hcv, asBool]) (evO_rep pre.tmps x) (evO_ids pre.tok x)
    · cases ex_ret e
      exact Sat.pure pre.real pre.ment (by simp [execOp, ho, hcv, asBool]) (evO_rep pre.tmps y) (evO_ids pre.tok y)
  · exact (ex_fail e).elim

theorem sat_newBox (pre : Pre P tr ok hdr S h w T a) (hO : ∀ id, ok id → Out tr h.c h'.c id) {cs : List AV} {vs : Array Value} {et : TypeId}
    (hx : (execOp a.eval o).run P w = .ok (.value (.pointer (some ⟨w.heap.size, 0, none⟩))) (w.alloc (.cells vs et))) (hr : VReps hdr S cs vs.toList) (hi : ∀ n ∈ AV.idsL cs, ok n)
    (e : ex (.new (.box cs) fun id => .ret (.ptr id 0)) tr h f = some (v, h', f')) : Sat P o a w tr ok hdr S h h' v := by
  have e := ex_new e
  cases ex_ret e
  have hp := post_new (tr := tr) pre.real pre.ment hO (.box cs) hi (.cells vs et) (.pointer (some ⟨w.heap.size, 0, none⟩)) (.inr rfl) (fun hdr' k1 k2 =>
    .box cs w.heap.size vs.toList et k2 (by rw [heap_alloc_new]) (hr.mono (fun _ _ k => k) fun n hn => k1 n (hi n hn)))
  refine Sat.value hx hp ?_ (fun n hn => ?_)
  · exact .ptr h.c 0 w.heap.size (hdrN_same _ _ _)
  · simp [AV.ids] at hn; subst hn; exact .inr ⟨Nat.le_refl _, Nat.lt_succ_self _⟩

theorem sat_alloc (hcx : TabOk P cx.tab) (pre : Pre P tr ok hdr S h w T a) (hO : ∀ id, ok id → Out tr h.c h'.c id) {t : TypeId} (ho : o.op = .alloc t)
    (e : ex (opP cx cal T o) tr h f = some (v, h', f')) : Sat P o a w tr ok hdr S h h' v := by
  simp only [opP, ho] at e
  obtain ⟨i, hi, e⟩ := ex_opt e
  obtain ⟨z, hz, hzc⟩ := (hcx t i hi).zero w
  refine sat_newBox pre hO (vs := z.cells) (et := t) ?_ (by rw [hzc]; exact zcells_rep i.ty) (by simp [zcells_ids]) e
  simp [execOp, ho, Instr.alloc, hz, newVar, newRow]

theorem sat_box (pre : Pre P tr ok hdr S h w T a) (hO : ∀ id, ok id → Out tr h.c h'.c id) {t : TypeId} {x : Operand} (ho : o.op = .box t x)
    (e : ex (opP cx cal T o) tr h f = some (v, h', f')) : Sat P o a w tr ok hdr S h h' v := by
  simp only [opP, ho] at e
  obtain ⟨cs, hcs, e⟩ := ex_opt e
  refine sat_newBox pre hO (vs := (a.eval x).cells) (et := t) ?_ (cellsOf_rep (evO_rep pre.tmps x) hcs) (fun n hn => evO_ids pre.tok x n (cellsOf_ids hcs hn)) e
  simp [execOp, ho, Instr.box, newVar, newRow]

theorem subL_some {cs ds : List AV} {off n : Nat} (e : subL cs off n = some ds) : off + n ≤ cs.length ∧ ds = (cs.drop off).take n := by
  unfold subL at e
  cases hl : leB (off + n) cs.length <;> simp only [hl, cond_true, cond_false] at e <;> cases e
  exact ⟨leB_iff.1 hl, rfl⟩

theorem sub_cells {cs : List AV} {vs : List Value} (hr : VReps hdr S cs vs) {off n : Nat} (hl : off + n ≤ cs.length) {cells : Array Value} {o0 : Nat} (hc : ∀ j, j < vs.length → cells[o0 + j]? = vs[j]?) :
    ((vs.drop off).take n).length = n ∧ ∀ j, j < ((vs.drop off).take n).length → cells[o0 + off + j]? = ((vs.drop off).take n)[j]? := by
  have hlen := hr.len
  have h1 : ((vs.drop off).take n).length = n := by simp; omega
  refine ⟨h1, fun j hj => ?_⟩
  rw [h1] at hj
  rw [List.getElem?_take_of_lt hj, List.getElem?_drop, Nat.add_assoc, hc (off + j) (by omega)]

theorem sat_load (hcx : TabOk P cx.tab) (pre : Pre P tr ok hdr S h w T a) {t : TypeId} {x : Operand} (ho : o.op = .load t x)
    (e : ex (opP cx cal T o) tr h f = some (v, h', f')) : Sat P o a w tr ok hdr S h h' v := by
  simp only [opP, ho] at e
  obtain ⟨i, hi, e⟩ := ex_opt e
  have hx := evO_rep pre.tmps x
  have hxi := evO_ids pre.tok x
  generalize hxv : a.eval x = xv at hx
  have fin : ∀ {cs : List AV} {vs : List Value} {b o0 off : Nat} {cells : Array Value} {et : TypeId} {fr : Nat × Nat} {ds : List AV}, xv = .pointer (some ⟨b, o0 + off, none⟩) → w.heap[b]? = some (.cells cells et fr) → VReps hdr S cs vs →
      (∀ j, j < vs.length → cells[o0 + j]? = vs[j]?) → subL cs off i.ty.size = some ds → (∀ n ∈ AV.idsL cs, ok n) → v = pack i.ty ds → h' = h → Sat P o a w tr ok hdr S h h' v := by
    intro cs vs b o0 off cells et fr ds e1 hw hr hc hs hid hv hh
    obtain ⟨hl, rfl⟩ := subL_some hs
    subst hv hh
    obtain ⟨h1, h2⟩ := sub_cells hr hl hc
    refine Sat.pure pre.real pre.ment (u := packV i.ty ((vs.drop off).take i.ty.size)) ?_ (pack_rep _ ((hr.drop off).take _)) (fun n hn => hid n (idsL_drop (idsL_take (pack_ids hn))))
    simp [execOp, ho, Instr.loadAt, Instr.sureAddr, hxv, e1, run_loadVar_in (hcx t i hi) hw (o0 + off) _ h1 h2]
  split at e
  · rename_i id off hev
    rw [hev] at hx
    obtain ⟨b, hb, e⟩ := ex_get e
    split at e
    · rename_i cs
      obtain ⟨ds, hds, e⟩ := ex_opt e
      cases ex_ret e
      cases hx with | ptr _ _ b hh =>
      have br := pre.real.blk id _ hb
      cases br with | box _ b' vs et hh' hw hr =>
      rw [hh] at hh'
      cases hh'
      exact fin (o0 := 0) (by simp) hw hr (fun j hj => by simp) hds (pre.ment id _ hb).2 rfl rfl
    · exact (ex_fail e).elim
  · rename_i cs off hev
    rw [hev] at hx hxi
    obtain ⟨ds, hds, e⟩ := ex_opt e
    cases ex_ret e
    cases hx with | view _ vs _ b o0 cells hS hc hr =>
    obtain ⟨et, fr, hw⟩ := pre.real.mem b cells hS
    exact fin rfl hw hr hc hds (by simpa [AV.ids] using hxi) rfl rfl
  · rename_i id sz j off hev
    rw [hev] at hx
    obtain ⟨b, hb, e⟩ := ex_get e
    split at e
    · rename_i et l
      rcases ex_cond e with ⟨hsz, e⟩ | ⟨_, e⟩
      · have hsz := nb_iff.1 hsz
        obtain ⟨d, hd, e⟩ := ex_opt e
        obtain ⟨ds, hds, e⟩ := ex_opt e
        cases ex_ret e
        cases hx with | eptr _ _ _ _ b len cap hh =>
        have br := pre.real.blk id _ hb
        obtain ⟨hj, hd⟩ := List.getElem?_eq_some_iff.1 hd
        cases br with
        | rowNil _ a hh' => simp at hj
        | row _ _ b' cap' vs et' hh' hcap hw hl hs hr =>
          rw [hh] at hh'
          cases hh'
          obtain ⟨cs, hlen, hcell, hrep⟩ := hr j hj
          subst hd
          refine fin (o0 := j * sz) rfl hw hrep.expand (fun q hq => ?_) hds (by rw [expand_ids]; simp) rfl rfl
          rw [hlen] at hq
          have := hcell q hq
          rw [hsz]
          simpa using this
      · exact (ex_fail e).elim
    · exact (ex_fail e).elim
  · exact (ex_fail e).elim
end
end Go.Proofs.YtmjbedjnojcmfaaDoor.Ex

namespace Go.Proofs.YtmjbedjnojcmfaaDoor.Ex
set_option linter.unusedSectionVars false
section
variable [RT] {P : Program} {cx : Ctx} {cal : FuncId → List AV → Prog AV} {o : Oper} {a : Act} {w : World} {T : Tm} {tr : Bool} {ok : Nat → Prop} {hdr : Nat → Value} {S : Stb} {h h' : Hp} {f f' : Foot} {v : AV}

theorem okn_self {ok : Nat → Prop} {c n : Nat} (k : okn ok c c n) : ok n := k.elim id fun k => by omega

theorem Post.weaken {ok ok' : Nat → Prop} {hdr' : Nat → Value} {S' : Stb} {w' : World} (p : Post tr ok hdr S h w hdr' S' h' w') (k : ∀ n, ok n → ok' n) : Post tr ok' hdr S h w hdr' S' h' w' :=
  ⟨p.mono, p.agree, p.real, p.step, p.ment.mono fun n hn => hn.imp (k n) id⟩

theorem flat_one {hdr : Nat → Value} {S : Stb} {a : AV} {v : Value} (h : VRep hdr S a v) (k : flatV a = true) : oneV v = true := by
  cases h <;> first | rfl | (cases k; done) | skip
  rename_i h
  cases h <;> rfl

theorem flatL_one {hdr : Nat → Value} {S : Stb} : ∀ {aZs : List AV} {vs : List Value}, VReps hdr S aZs vs → flatL aZs = true → ∀ v ∈ vs, oneV v = true
  | _, _, .nil, _, v, hv => by cases hv
  | _, _, .cons a u aZs vs h h', k, v, hv => by
    simp only [flatL, Bool.and_eq_true] at k
    rcases List.mem_cons.1 hv with rfl | hv
    · exact flat_one h k.1
    · exact flatL_one h' k.2 v hv

theorem DRep.ones {S : Stb} {t : Ty} {cs : List Value} {d : D t} (h : DRep S t cs d) : ∀ v ∈ cs, oneV v = true := by
  induction h with
  | st f cs d _ ih => exact ih
  | pair a b cs cs' d d' _ _ ih ih' => intro v hv; exact (List.mem_append.1 hv).elim (ih v) (ih' v)
  | _ => intro v hv; simp at hv; subst hv; rfl

theorem row_del (hr : HReal hdr S h.blks w) (hm : Ment ok h.blks) {id : Nat} {e : Ty} {l : List (D e)} (hf : findB h.blks id = some (.row e l)) :
    ∃ S', Post tr ok hdr S h w hdr S' ⟨delB h.blks id, h.c⟩ w ∧ DRep S' (.sl e) [hdr id] l := by
  have br := hr.blk id _ hf
  cases br with
  | rowNil _ a hh =>
    refine ⟨S, post_del hr hm id _ hf S (fun _ _ k => k) (fun _ _ k => .inl k), ?_⟩
    rw [hh]; exact .slNil e a 0
  | row _ _ b cap vs et hh hcap hw hl hs hre =>
    have hblk : blkOf (hdr id) = some b := by
      rw [hh]
      cases cap with
      | zero => omega
      | succ n => rfl
    have hSb := hr.stb id _ b hf hblk
    have hle : ∀ n c, S n = some c → (if n = b then some vs else S n) = some c := fun n c k => by
      by_cases e : n = b
      · subst e; rw [hSb] at k; cases k
      · simp [e, k]
    refine ⟨fun n => if n = b then some vs else S n, post_del hr hm id _ hf _ hle (fun n c k => ?_), ?_⟩
    · by_cases e : n = b
      · subst e; simp only [if_pos] at k; cases k; exact .inr ⟨hblk, et, _, hw⟩
      · simp only [e, if_false] at k; exact .inl k
    · rw [hh]
      exact .ofERep (cells := vs) (by simp) hl (hre.mono hle)

theorem ex_freeze : ∀ (vs : List AV) (k : List AV → Prog AV) (h : Hp) (f : Foot) (S : Stb) (us : List Value) (ok : Nat → Prop), HReal hdr S h.blks w → Ment ok h.blks → VReps hdr S vs us →
    ∀ r, ex (freeze vs k) tr h f = some r →
    ∃ vs' h1 f1 S1, ex (k vs') tr h1 f1 = some r ∧ Post tr ok hdr S h w hdr S1 h1 w ∧ VReps hdr S1 vs' us ∧ (∀ n ∈ AV.idsL vs', n ∈ AV.idsL vs) ∧ h1.c = h.c ∧ (flatL vs = true → flatL vs' = true) := by
  intro vs
  induction vs with
  | nil =>
    intro k h f S us ok hr hm hv r e
    exact ⟨[], h, f, S, e, Post.refl hr hm, hv, fun n hn => hn, rfl, fun h => h⟩
  | cons x vs ih =>
    intro k h f S us ok hr hm hv r e
    cases hv with | cons _ u _ us hx hv =>
    have other : (∀ id, x ≠ .row id) → ∃ vs' h1 f1 S1, ex (k vs') tr h1 f1 = some r ∧ Post tr ok hdr S h w hdr S1 h1 w ∧ VReps hdr S1 vs' (u :: us) ∧ (∀ n ∈ AV.idsL vs', n ∈ AV.idsL (x :: vs)) ∧ h1.c = h.c ∧ (flatL (x :: vs) = true → flatL vs' = true) := by
      intro hne
      have e' : ex (freeze vs fun r' => k (x :: r')) tr h f = some r := by
        cases x <;> first | exact e | exact absurd rfl (hne _)
      obtain ⟨vs', h1, f1, S1, e1, p, q, i, c, fl⟩ := ih _ h f S us ok hr hm hv r e'
      refine ⟨x :: vs', h1, f1, S1, e1, p, .cons _ _ _ _ (hx.mono p.step.sle fun _ _ => rfl) q, fun n hn => ?_, c, fun k => ?_⟩
      · simp only [AV.idsL, List.mem_append] at hn ⊢; exact hn.imp (fun h => h) (i n)
      · simp only [flatL, Bool.and_eq_true] at k ⊢; exact ⟨k.1, fl k.2⟩
    by_cases hrow : ∃ id, x = .row id
    · obtain ⟨id, rfl⟩ := hrow
      obtain ⟨b, hb, e⟩ := ex_get e
      split at e
      · rename_i et l
        obtain ⟨_, e⟩ := ex_del e
        obtain ⟨S2, p2, d2⟩ := row_del (tr := tr) hr hm hb
        have hv2 : VReps hdr S2 vs us := hv.mono p2.step.sle fun _ _ => rfl
        obtain ⟨vs', h1, f1, S1, e1, p, q, i, c, fl⟩ := ih _ _ _ S2 us ok p2.real (p2.ment.mono fun _ k => okn_self k) hv2 r e
        refine ⟨.sl et l :: vs', h1, f1, S1, e1, p2.trans (p.weaken fun _ k => .inl k), ?_, fun n hn => ?_, c, fun k => ?_⟩
        · cases hx with | row _ a len cap hh =>
          rw [hh] at d2
          exact .cons _ _ _ _ (.sl et l _ (d2.mono p.step.sle)) q
        · simp only [AV.idsL, AV.ids, List.mem_append, List.nil_append] at hn ⊢; exact .inr (i n hn)
        · simp only [flatL, Bool.and_eq_true] at k ⊢; exact ⟨rfl, fl k.2⟩
      · exact (ex_fail e).elim
    · exact other fun id hid => hrow ⟨id, hid⟩

theorem spl_get (vs us : List Value) (k n : Nat) (hk : k + us.length ≤ vs.length) :
    (vs.take k ++ us ++ vs.drop (k + us.length))[n]? = if n < k then vs[n]? else if n < k + us.length then us[n - k]? else vs[n]? := by
  rw [List.append_assoc]
  by_cases h1 : n < k
  · rw [if_pos h1, List.getElem?_append_left (by simp; omega), List.getElem?_take_of_lt h1]
  · rw [if_neg h1, List.getElem?_append_right (by simp; omega)]
    have hl : (vs.take k).length = k := by simp; omega
    rw [hl]
    by_cases h2 : n < k + us.length
    · rw [if_pos h2, List.getElem?_append_left (by omega)]
    · rw [if_neg h2, List.getElem?_append_right (by omega), List.getElem?_drop]
      congr 1; omega

theorem eVal_eMk : ∀ (e : Ty) (d : D (eTy e)), eVal e (eMk e d) = d
  | .mu n, d => RT.uf n d
  | .int _, _ => rfl
  | .bool, _ => rfl
  | .str, _ => rfl
  | .sl _, _ => rfl
  | .st _, _ => rfl
  | .pair _ _, _ => rfl

theorem splice_rep {cs : List AV} {vs : List Value} (hr : VReps hdr S cs vs) {aZs : List AV} {us : List Value} (hu : VReps hdr S aZs us) (off : Nat) :
    VReps hdr S (splice cs off aZs) (vs.take off ++ us ++ vs.drop (off + us.length)) := by
  unfold splice
  rw [hu.len]
  exact ((hr.take off).append hu).append (hr.drop _)

theorem splice_ids {cs aZs : List AV} {off n : Nat} (hn : n ∈ AV.idsL (splice cs off aZs)) : n ∈ AV.idsL cs ∨ n ∈ AV.idsL aZs := by
  unfold splice at hn
  rw [idsL_append, idsL_append] at hn
  simp only [List.mem_append] at hn
  rcases hn with (k | k) | k
  · exact .inl (idsL_take k)
  · exact .inr k
  · exact .inl (idsL_drop k)

theorem run_storeAt {i : TInfo} {t : TypeId} (hk : TyOk P cx.tab t i) {b off : Nat} {vs : List Value} {et : TypeId} (hw : w.heap[b]? = some (.cells vs.toArray et (0, 0))) (x : Value)
    (hlen : x.cells.toList.length = i.ty.size) (hoff : off + x.cells.toList.length ≤ vs.length) (hone : ∀ v ∈ x.cells.toList, oneV v = true) :
    ∃ w', (Instr.storeAt t (.pointer (some ⟨b, off, none⟩)) x).run P w = .ok () w' ∧ w'.os = w.os ∧ w'.tape = w.tape ∧ w'.output = w.output ∧ w'.heap.size = w.heap.size ∧ (∀ n, n ≠ b → w'.heap[n]? = w.heap[n]?) ∧
      w'.heap[b]? = some (.cells (vs.take off ++ x.cells.toList ++ vs.drop (off + x.cells.toList.length)).toArray et (0, 0)) := by
  obtain ⟨w', e, a1, a2, a3, a4, a5, a6⟩ := run_storeCells_in P b et x.cells.toList w vs off 0 hw (by omega) hone
  refine ⟨w', ?_, a1, a2, a3, a4, a5, by simpa using a6⟩
  have h1 : x.cells.size = i.ty.size := by simpa using hlen
  simp [Instr.storeAt, Instr.sureAddr, storeVar, hk.sizeOf, h1, e]

theorem sat_store (hcx : TabOk P cx.tab) (pre : Pre P tr ok hdr S h w T a) {t : TypeId} {x y : Operand} (ho : o.op = .store t x y)
    (e : ex (opP cx cal T o) tr h f = some (v, h', f')) : Sat P o a w tr ok hdr S h h' v := by
  simp only [opP, ho] at e
  obtain ⟨i, hi, e⟩ := ex_opt e
  obtain ⟨aZs, has, e⟩ := ex_opt e
  rcases ex_cond e with ⟨hc, e⟩ | ⟨_, e⟩
  case inr => exact (ex_fail e).elim
  simp only [Bool.and_eq_true] at hc
  have hsz := nb_iff.1 hc.1
  have hflat := hc.2
  have hx := evO_rep pre.tmps x
  have hy := cellsOf_rep (evO_rep pre.tmps y) has
  have hyi : ∀ n ∈ AV.idsL aZs, ok n := fun n hn => evO_ids pre.tok y n (cellsOf_ids has hn)
  generalize hxv : a.eval x = xv at hx
  generalize hyv : a.eval y = yv at hy
  have hylen := hy.len
  split at e
  · rename_i id off hev
    rw [hev] at hx
    obtain ⟨b, hb, e⟩ := ex_get e
    split at e
    · rename_i cs
      rcases ex_cond e with ⟨hl, e⟩ | ⟨_, e⟩
      case inr => exact (ex_fail e).elim
      have hl := leB_iff.1 hl
      obtain ⟨_, e⟩ := ex_put e
      cases ex_ret e
      cases hx with | ptr _ _ b hh =>
      have br := pre.real.blk id _ hb
      cases br with | box _ b' vs et hh' hw hr =>
      rw [hh] at hh'
      cases hh'
      have hrl := hr.len
      obtain ⟨w', e1, a1, a2, a3, a4, a5, a6⟩ := run_storeAt (hcx t i hi) hw yv (by omega) (by omega) (off := off) (flatL_one hy hflat)
      refine Sat.skip (w' := w') ?_ (post_put pre.real pre.ment id (.box (splice cs off aZs)) _ hb (fun n hn => ?_) w' b (by rw [hh]; rfl) a1 a2 a3 a4 a5 ?_)
      · simp [execOp, ho, hxv, hyv, e1]
      · exact (splice_ids hn).elim ((pre.ment id _ hb).2 n) (hyi n)
      · exact .box _ b _ et hh a6 (by simpa using splice_rep hr hy off)
    · exact (ex_fail e).elim
  · rename_i id sz j off hev
    rw [hev] at hx
    obtain ⟨aZs', h1, f1, S1, e, p1, hy1, hi1, hc1, hf1⟩ := ex_freeze aZs _ h f S _ ok pre.real pre.ment hy _ e
    have hflat1 := hf1 hflat
    have hlen1 := hy1.len
    have hlen2 : aZs'.length = yv.cells.size := by simpa using hlen1
    obtain ⟨b, hb, e⟩ := ex_get e
    split at e
    · rename_i et l
      rcases ex_cond e with ⟨hsz', e⟩ | ⟨_, e⟩
      case inr => exact (ex_fail e).elim
      have hsz' := nb_iff.1 hsz'
      obtain ⟨d, hd, e⟩ := ex_opt e
      rcases ex_cond e with ⟨hl, e⟩ | ⟨_, e⟩
      case inr => exact (ex_fail e).elim
      have hl := leB_iff.1 hl
      obtain ⟨d', hd', e⟩ := ex_opt e
      obtain ⟨_, e⟩ := ex_put e
      cases ex_ret e
      cases hx with | eptr _ _ _ _ b len cap hh =>
      have br := p1.real.blk id _ hb
      obtain ⟨hj, hd⟩ := List.getElem?_eq_some_iff.1 hd
      subst hd
      cases br with
      | rowNil _ a hh' => simp at hj
      | row _ _ b' cap' vs et' hh' hcap hw hl' hs hr =>
        rw [hh] at hh'
        cases hh'
        obtain ⟨cs, hcl, hcell, hrep⟩ := hr j hj
        have hmul : (j + 1) * (eTy et).size ≤ cap * (eTy et).size := Nat.mul_le_mul_right _ (by omega)
        rw [Nat.add_mul, Nat.one_mul] at hmul
        have hw' : w.heap[b]? = some (.cells vs.toList.toArray et' (0, 0)) := by simpa using hw
        obtain ⟨w', e1, a1, a2, a3, a4, a5, a6⟩ := run_storeAt (hcx t i hi) hw' yv (by omega) (off := j * sz + off) (by rw [hsz']; simp; omega) (flatL_one hy hflat)
        have hblk : blkOf (hdr id) = some b := by
          rw [hh]
          cases cap with
          | zero => omega
          | succ n => rfl
        refine Sat.skip (w' := w') ?_ (p1.trans (post_put p1.real (p1.ment) id (.row et (l.set j (eMk et d'))) _ hb (fun n hn => by cases hn) w' b hblk a1 a2 a3 a4 a5 ?_))
        · simp [execOp, ho, hxv, hyv, e1]
        · refine .row et _ b cap _ et' (by simpa using hh) hcap a6 (by simpa using hl') ?_ ?_
          · have := hs
            simp only [List.size_toArray, List.length_append, List.length_take, List.length_drop]
            rw [hsz']
            simp only [Array.length_toList]
            omega
          · intro q hq
            have hq' : q < l.length := by simpa using hq
            by_cases hqj : q = j
            · subst hqj
              refine ⟨cs.take off ++ yv.cells.toList ++ cs.drop (off + yv.cells.toList.length), ?_, fun p hp => ?_, ?_⟩
              · simp; simp at hlen1; omega
              · have g1 := spl_get vs.toList yv.cells.toList (q * sz + off) (0 + q * (eTy et).size + p) (by rw [hsz']; simp; simp at hlen1; omega)
                have g2 := spl_get cs yv.cells.toList off p (by omega)
                simp only [List.getElem?_toArray]
                rw [g1, g2, hsz']
                have hp0 := hcell p hp
                by_cases c1 : p < off
                · rw [if_pos (by omega), if_pos c1]; simpa using hp0
                · rw [if_neg (by omega), if_neg c1]
                  by_cases c2 : p < off + yv.cells.toList.length
                  · rw [if_pos (by omega), if_pos c2]; congr 1; omega
                  · rw [if_neg (by omega), if_neg c2]; simpa using hp0
              · have := collapse_rep (splice_rep (hrep.expand (hdr := hdr)) hy1 off) hd'
                simpa [eVal_eMk] using this
            · obtain ⟨cq, k1, k2, k3⟩ := hr q hq'
              refine ⟨cq, k1, fun p hp => ?_, ?_⟩
              · have g1 := spl_get vs.toList yv.cells.toList (j * sz + off) (0 + q * (eTy et).size + p) (by rw [hsz']; simp; simp at hlen1; omega)
                simp only [List.getElem?_toArray]
                rw [g1, hsz']
                have hp0 := k2 p hp
                rcases Nat.lt_or_gt_of_ne hqj with c | c
                · have := Nat.mul_le_mul_right (eTy et).size (show q + 1 ≤ j from c)
                  rw [Nat.add_mul, Nat.one_mul] at this
                  rw [if_pos (by omega)]; simpa using hp0
                · have := Nat.mul_le_mul_right (eTy et).size (show j + 1 ≤ q from c)
                  rw [Nat.add_mul, Nat.one_mul] at this
                  rw [if_neg (by omega), if_neg (by omega)]; simpa using hp0
              · simpa [List.getElem_set_ne (Ne.symm hqj)] using k3
    · exact (ex_fail e).elim
  · exact (ex_fail e).elim
end
end Go.Proofs.YtmjbedjnojcmfaaDoor.Ex

namespace Go.Proofs.YtmjbedjnojcmfaaDoor.Ex
set_option linter.unusedSectionVars false
section
variable [RT] {P : Program} {cx : Ctx} {cal : FuncId → List AV → Prog AV} {o : Oper} {a : Act} {w : World} {T : Tm} {tr : Bool} {ok : Nat → Prop} {hdr : Nat → Value} {S : Stb} {h h' : Hp} {f f' : Foot} {v : AV}

theorem TyOk.struct {t : TypeId} {i : TInfo} {tab : List (TypeId × TInfo)} (k : TyOk P tab t i) (hs : isSt i.ty = true) :
    ∃ fs : Array Field, P.underlying t = some (.struct fs) ∧ fs.size = i.flds.length ∧ ∀ (j : Nat) (p : Nat × Nat), i.flds[j]? = some p → ∃ (fd : Field) (fi : TypeInfo), fs[j]? = some fd ∧ fd.offset = p.1 ∧ P.info? fd.type = some fi ∧ fi.size = p.2 := by
  have u := k.und
  unfold UndOk at u
  split at u
  all_goals first
    | exact u
    | (rename_i hty; rw [hty] at hs; cases hs)
    | exact u.elim

theorem TyOk.slice {t : TypeId} {i : TInfo} {tab : List (TypeId × TInfo)} (k : TyOk P tab t i) {e : Ty} (hs : i.ty = .sl e) :
    P.underlying t = some (.slice i.elem) ∧ ∃ ie, tiL tab i.elem = some ie ∧ ie.ty = eTy e := by
  have u := k.und
  unfold UndOk at u
  rw [hs] at u
  exact u

theorem isSl_eq {t : Ty} (h : isSl t = true) : ∃ e, t = .sl e := by
  cases t <;> first | exact ⟨_, rfl⟩ | cases h

theorem sat_fieldAddr (hcx : TabOk P cx.tab) (pre : Pre P tr ok hdr S h w T a) {t : TypeId} {x : Operand} {fl : Nat} (ho : o.op = .fieldAddr t x fl)
    (e : ex (opP cx cal T o) tr h f = some (v, h', f')) : Sat P o a w tr ok hdr S h h' v := by
  simp only [opP, ho] at e
  obtain ⟨i, hi, e⟩ := ex_opt e
  obtain ⟨p, hp, e⟩ := ex_opt e
  rcases ex_cond e with ⟨_, e⟩ | ⟨hz, e⟩
  · exact (ex_fail e).elim
  simp only [Bool.or_eq_false_iff, Bool.not_eq_false'] at hz
  have hst := hz.2
  have hz : p.2 ≠ 0 := fun k => by rw [k] at hz; cases hz.1
  have u' : ∃ fs : Array Field, P.underlying t = some (.struct fs) ∧ ∃ (fd : Field) (fi : TypeInfo), fs[fl]? = some fd ∧ fd.offset = p.1 ∧ P.info? fd.type = some fi ∧ fi.size = p.2 := by
    obtain ⟨fs, h1, _, h3⟩ := (hcx t i hi).struct hst
    exact ⟨fs, h1, h3 fl p hp⟩
  obtain ⟨fs, h1, fd, fi, h2, h3, h4, h5⟩ := u'
  have hx := evO_rep pre.tmps x
  have hxi := evO_ids pre.tok x
  generalize hxv : a.eval x = xv at hx
  have run : ∀ b off, xv = .pointer (some ⟨b, off, none⟩) → (execOp a.eval o).run P w = .ok (.value (.pointer (some ⟨b, off + p.1, none⟩))) w := by
    intro b off e1
    simp [execOp, ho, hxv, e1, Instr.fieldAt, underlying, h1, h2, Instr.sureAddr, fieldPlace, sizeOf, typeInfo, h4, h5, hz, h3, add_mk]
  split at e
  · rename_i id off hev
    cases ex_ret e
    rw [hev] at hx hxi
    cases hx with | ptr _ _ b hh =>
    exact Sat.pure pre.real pre.ment (run b off rfl) (.ptr id _ b hh) (by simpa [AV.ids] using hxi)
  · rename_i cs off hev
    cases ex_ret e
    rw [hev] at hx hxi
    cases hx with | view _ vs _ b o0 cells hS hc hr =>
    exact Sat.pure pre.real pre.ment (run b (o0 + off) rfl) (by rw [Nat.add_assoc]; exact .view cs vs _ b o0 cells hS hc hr) (by simpa [AV.ids] using hxi)
  · rename_i id sz j off hev
    cases ex_ret e
    rw [hev] at hx hxi
    cases hx with | eptr _ _ _ _ b len cap hh =>
    exact Sat.pure pre.real pre.ment (run b (j * sz + off) rfl) (by rw [Nat.add_assoc]; exact .eptr id sz j _ b len cap hh) (by simpa [AV.ids] using hxi)
  · exact (ex_fail e).elim

theorem sat_indexAddr (hcx : TabOk P cx.tab) (pre : Pre P tr ok hdr S h w T a) {t : TypeId} {x ix : Operand} (ho : o.op = .indexAddr t x ix)
    (e : ex (opP cx cal T o) tr h f = some (v, h', f')) : Sat P o a w tr ok hdr S h h' v := by
  simp only [opP, ho] at e
  obtain ⟨i, hi, e⟩ := ex_opt e
  obtain ⟨ie, hie, e⟩ := ex_opt e
  rcases ex_cond e with ⟨hsl, e⟩ | ⟨_, e⟩
  case inr => exact (ex_fail e).elim
  obtain ⟨e0, he0⟩ := isSl_eq hsl
  obtain ⟨hu, _, _, _⟩ := (hcx t i hi).slice he0
  have hx := evO_rep pre.tmps x
  have hix := evO_rep pre.tmps ix
  have hxi := evO_ids pre.tok x
  generalize hxv : a.eval x = xv at hx
  generalize hiv : a.eval ix = iv at hix
  have run : ∀ (k : IntKind) (n : Int) (b o0 len cap : Nat), iv = .int k n → xv = .slice (some ⟨b, o0, none⟩) len cap → 0 ≤ n → n.toNat < len →
      (execOp a.eval o).run P w = .ok (.value (.pointer (some ⟨b, o0 + n.toNat * ie.ty.size, none⟩))) w := by
    intro k n b o0 len cap e1 e2 h0 h1
    have h2 : n < (len : Int) := by omega
    simp [execOp, ho, hxv, hiv, e1, e2, Instr.indexAt, asIntOf, underlying, hu, h0, h2, (hcx _ ie hie).sizeOf, add_mk]
  split at e
  · rename_i et l k n hev1 hev2
    rw [hev1] at hx
    rw [hev2] at hix
    rcases ex_cond e with ⟨hsz, e⟩ | ⟨_, e⟩
    case inr => exact (ex_fail e).elim
    have hsz := nb_iff.1 hsz
    rcases ex_ite e with ⟨h0, e⟩ | ⟨_, e⟩
    case inr => exact (ex_fail e).elim
    have h0 := of_decide_eq_true h0
    obtain ⟨d, hd, e⟩ := ex_opt e
    cases ex_ret e
    obtain ⟨hj, hd⟩ := List.getElem?_eq_some_iff.1 hd
    subst hd
    cases hix
    cases hx with | sl _ _ v hd =>
    cases hd with
    | slNil => simp at hj
    | sl _ b o0 cap _ cells cf hS hcap hs hc hr =>
      refine Sat.pure pre.real pre.ment (run k n b o0 l.length cap rfl rfl h0 hj) (VRep.view (off := 0) _ (cf n.toNat) b _ cells hS (fun q hq => ?_) ((hr _ hj).expand)) ?_
      · rw [hs _ hj] at hq
        rw [hsz]
        exact hc _ _ hj hq
      · intro m hm; simp [AV.ids, expand_ids] at hm
  · rename_i id k n hev1 hev2
    rw [hev1] at hx hxi
    rw [hev2] at hix
    obtain ⟨b, hb, e⟩ := ex_get e
    split at e
    · rename_i et l
      rcases ex_cond e with ⟨hsz, e⟩ | ⟨_, e⟩
      case inr => exact (ex_fail e).elim
      have hsz := nb_iff.1 hsz
      rcases ex_ite e with ⟨h0, e⟩ | ⟨_, e⟩
      case inr => exact (ex_fail e).elim
      have h0 := of_decide_eq_true h0
      obtain ⟨d, hd, e⟩ := ex_opt e
      cases ex_ret e
      obtain ⟨hj, hd⟩ := List.getElem?_eq_some_iff.1 hd
      cases hix
      cases hx with | row _ ao len cap hh =>
      have br := pre.real.blk id _ hb
      cases br with
      | rowNil _ a hh' => simp at hj
      | row _ _ b' cap' vs et' hh' hcap hw hl' hs hr =>
        rw [hh] at hh'
        cases hh'
        refine Sat.pure pre.real pre.ment (run k n b' 0 l.length _ rfl rfl h0 hj) ?_ (by simpa [AV.ids] using hxi)
        have := VRep.eptr (S := S) (hdr := hdr) id (eTy et).size n.toNat 0 b' _ _ hh
        rw [hsz]
        simpa using this
    · exact (ex_fail e).elim
  · rename_i et id sz m k n hev1 hev2
    rw [hev1] at hx hxi
    rw [hev2] at hix
    rcases ex_cond e with ⟨hsz, e⟩ | ⟨_, e⟩
    case inr => exact (ex_fail e).elim
    have hsz := nb_iff.1 hsz
    rcases ex_ite e with ⟨h0, e⟩ | ⟨_, e⟩
    case inr => exact (ex_fail e).elim
    have h0 := of_decide_eq_true h0
    cases ex_ret e
    cases hix
    cases hx with | vsl _ _ _ _ b cap hh hcc =>
    refine Sat.pure pre.real pre.ment (run k n b 0 m _ rfl rfl h0.1 h0.2) ?_ (by simpa [AV.ids] using hxi)
    have := VRep.ptr (S := S) (hdr := hdr) id (n.toNat * sz) b hh
    rw [hsz]
    simpa using this
  · exact (ex_fail e).elim

theorem sat_extract (pre : Pre P tr ok hdr S h w T a) {x : Operand} {ix : Nat} (ho : o.op = .extract x ix)
    (e : ex (opP cx cal T o) tr h f = some (v, h', f')) : Sat P o a w tr ok hdr S h h' v := by
  simp only [opP, ho] at e
  have hx := evO_rep pre.tmps x
  have hxi := evO_ids pre.tok x
  generalize hxv : a.eval x = xv at hx
  split at e
  · rename_i vs hev
    rw [hev] at hx hxi
    obtain ⟨u, hu, e⟩ := ex_opt e
    cases ex_ret e
    cases hx with | tup _ us hr =>
    obtain ⟨u', hu', hr'⟩ := hr.get ix _ hu
    refine Sat.pure pre.real pre.ment (u := u') ?_ hr' (fun n hn => hxi n ?_)
    · simp [execOp, ho, hxv, Instr.extract, hu']
    · simp only [AV.ids]; exact idsL_mem (List.mem_of_getElem? hu) hn
  · exact (ex_fail e).elim

theorem sat_makeFunc (pre : Pre P tr ok hdr S h w T a) {fn : Fn} {x y : Array Operand} (ho : o.op = .makeFunc fn x y)
    (e : ex (opP cx cal T o) tr h f = some (v, h', f')) : Sat P o a w tr ok hdr S h h' v := by
  simp only [opP, ho] at e
  split at e
  · rename_i g
    cases ex_ret e
    refine Sat.pure pre.real pre.ment (u := .func (.func g) (x.map a.eval) (y.map a.eval)) (by simp [execOp, ho, Instr.makeFunc]) ?_ (fun n hn => ?_)
    · have h1 := evL_rep pre.tmps x.toList
      have h2 := evL_rep pre.tmps y.toList
      have e1 : ∀ z : Array Operand, (z.toList.map a.eval).toArray = z.map a.eval := fun z => by rw [← Array.toList_map]
      have := VRep.clo g _ _ _ _ h1 h2
      rwa [e1, e1] at this
    · simp only [AV.ids, List.mem_append] at hn
      exact hn.elim (evL_ids pre.tok _ n) (evL_ids pre.tok _ n)
  · exact (ex_fail e).elim

theorem sat_nilCheck (pre : Pre P tr ok hdr S h w T a) {x : Operand} (ho : o.op = .nilCheck x)
    (e : ex (opP cx cal T o) tr h f = some (v, h', f')) : Sat P o a w tr ok hdr S h h' v := by
  simp only [opP, ho] at e
  have hx := evO_rep pre.tmps x
  have hxi := evO_ids pre.tok x
  generalize hxv : a.eval x = xv at hx
  split at e
  · rename_i id off hev
    cases ex_ret e
    rw [hev] at hx hxi
    have hx' := hx
    cases hx with | ptr _ _ b hh =>
    exact Sat.pure pre.real pre.ment (by simp [execOp, ho, hxv]) hx' hxi
  · rename_i cs off hev
    cases ex_ret e
    rw [hev] at hx hxi
    have hx' := hx
    cases hx with | view _ vs _ b o0 cells hS hc hr =>
    exact Sat.pure pre.real pre.ment (by simp [execOp, ho, hxv]) hx' hxi
  · rename_i id sz j off hev
    cases ex_ret e
    rw [hev] at hx hxi
    have hx' := hx
    cases hx with | eptr _ _ _ _ b len cap hh =>
    exact Sat.pure pre.real pre.ment (by simp [execOp, ho, hxv]) hx' hxi
  · rename_i g p q hev
    cases ex_ret e
    rw [hev] at hx hxi
    have hx' := hx
    cases hx with | clo _ _ _ fs cs h1 h2 =>
    exact Sat.pure pre.real pre.ment (by simp [execOp, ho, hxv]) hx' hxi
  · exact (ex_fail e).elim

theorem sat_unOp (pre : Pre P tr ok hdr S h w T a) {op : UnOp} {t : TypeId} {x : Operand} (ho : o.op = .unOp op t x)
    (e : ex (opP cx cal T o) tr h f = some (v, h', f')) : Sat P o a w tr ok hdr S h h' v := by
  simp only [opP, ho] at e
  have hx := evO_rep pre.tmps x
  generalize hxv : a.eval x = xv at hx
  split at e
  · rename_i b hev
    cases ex_ret e
    rw [hev] at hx
    cases hx
    exact Sat.pure pre.real pre.ment (by simp [execOp, ho, hxv, Op.unary]) (.bool _) (fun n hn => by cases hn)
  · rename_i k n hev
    cases ex_ret e
    rw [hev] at hx
    cases hx
    exact Sat.pure pre.real pre.ment (by simp [execOp, ho, hxv, Op.unary, Op.intArith]) (.int _ _) (fun n hn => by cases hn)
  · exact (ex_fail e).elim

end
end Go.Proofs.YtmjbedjnojcmfaaDoor.Ex

namespace Go.Proofs.YtmjbedjnojcmfaaDoor.Ex
set_option linter.unusedSectionVars false
section
variable [RT] {P : Program} {cx : Ctx} {cal : FuncId → List AV → Prog AV} {o : Oper} {a : Act} {w : World} {T : Tm} {tr : Bool} {ok : Nat → Prop} {hdr : Nat → Value} {S : Stb} {h h' : Hp} {f f' : Foot} {v : AV}

def CmpOk (P : Program) (t : TypeId) (τ : Ty) : Prop :=
  P.eqGuardType P.depth t = false ∧ ∀ (w : World) (hdr : Nat → Value) (S : Stb) (xs ys : List AV) (vs us : List Value) (b : Bool), VReps hdr S xs vs → VReps hdr S ys us → eqAgg τ xs ys = some b →
    (Op.equalIn 10000 t (.agg vs.toArray) (.agg us.toArray)).run P w = .ok b w

def CmpsOk (P : Program) (tab : List (TypeId × TInfo)) : Prop := ∀ t i, tiL tab t = some i → i.cmp = true → CmpOk P t i.ty

theorem run_binI {op : BinOp} {k : IntKind} {n m : Int} {u : AV} (e : binI op k n m = some u) (t : TypeId) (x y : Operand) :
    u.ids = [] ∧ ∃ z, ((do eqGuard op t x y (.int k n) (.int k m); binOp op t (.int k n) (.int k m)) : Sem Value).run P w = .ok z w ∧ VRep hdr S u z := by
  cases op <;> simp only [binI, reduceCtorEq, Option.some.injEq] at e <;> subst e <;> refine ⟨rfl, ?_⟩
  case add => exact ⟨_, by simp [binOp, Op.intArith, eqGuard], .int _ _⟩
  case sub => exact ⟨_, by simp [binOp, Op.intArith, eqGuard], .int _ _⟩
  case mul => exact ⟨_, by simp [binOp, Op.intArith, eqGuard], .int _ _⟩
  case and => exact ⟨_, by simp [binOp, Op.intBits, eqGuard], .int _ _⟩
  case or => exact ⟨_, by simp [binOp, Op.intBits, eqGuard], .int _ _⟩
  case xor => exact ⟨_, by simp [binOp, Op.intBits, eqGuard], .int _ _⟩
  case andNot => exact ⟨_, by simp [binOp, Op.intBits, eqGuard], .int _ _⟩
  case eql => exact ⟨.bool (n == m), by simp [binOp, Op.intCmp, eqGuard], .bool _⟩
  case neq => exact ⟨.bool (n != m), by simp [binOp, Op.intCmp, eqGuard], .bool _⟩
  case lss => exact ⟨.bool (decide (n < m)), by simp [binOp, Op.intCmp, eqGuard], .bool _⟩
  case leq => exact ⟨.bool (decide (n ≤ m)), by simp [binOp, Op.intCmp, eqGuard], .bool _⟩
  case gtr => exact ⟨.bool (decide (n > m)), by simp [binOp, Op.intCmp, eqGuard], .bool _⟩
  case geq => exact ⟨.bool (decide (n ≥ m)), by simp [binOp, Op.intCmp, eqGuard], .bool _⟩

theorem run_divI {op : BinOp} {k : IntKind} {n m : Int} {u : AV} (e : divI op k n m = some u) (h0 : ¬ m = 0) (t : TypeId) (x y : Operand) :
    u.ids = [] ∧ ∃ z, ((do eqGuard op t x y (.int k n) (.int k m); binOp op t (.int k n) (.int k m)) : Sem Value).run P w = .ok z w ∧ VRep hdr S u z := by
  cases op <;> simp only [divI, reduceCtorEq, Option.some.injEq] at e <;> subst e <;> refine ⟨rfl, ?_⟩
  case quo => exact ⟨_, by simp [binOp, Op.intDiv, h0, eqGuard], .int _ _⟩
  case rem => exact ⟨_, by simp [binOp, Op.intDiv, h0, eqGuard], .int _ _⟩

theorem run_shI {op : BinOp} {k k' : IntKind} {n m : Int} {u : AV} (e : shI op k n m = some u) (h0 : ¬ m < 0) (t : TypeId) (x y : Operand) :
    u.ids = [] ∧ ∃ z, ((do eqGuard op t x y (.int k n) (.int k' m); binOp op t (.int k n) (.int k' m)) : Sem Value).run P w = .ok z w ∧ VRep hdr S u z := by
  cases op <;> simp only [shI, reduceCtorEq, Option.some.injEq] at e <;> subst e <;> refine ⟨rfl, ?_⟩
  case shl => exact ⟨_, by simp [binOp, Op.shift, h0, eqGuard], .int _ _⟩
  case shr => exact ⟨_, by simp [binOp, Op.shift, h0, eqGuard], .int _ _⟩

theorem run_strB {op : BinOp} {n m : ByteArray} {u : AV} (e : strB op n m = some u) (t : TypeId) (x y : Operand) :
    u.ids = [] ∧ ∃ z, ((do eqGuard op t x y (.string n) (.string m); binOp op t (.string n) (.string m)) : Sem Value).run P w = .ok z w ∧ VRep hdr S u z := by
  cases op <;> simp only [strB, reduceCtorEq, Option.some.injEq] at e <;> subst e <;> refine ⟨rfl, ?_⟩
  case eql => exact ⟨_, by simp [binOp, Op.stringOp, eqGuard], .bool _⟩
  case neq => exact ⟨_, by simp [binOp, Op.stringOp, eqGuard], .bool _⟩
  case lss => exact ⟨_, by simp [binOp, Op.stringOp, eqGuard], .bool _⟩
  case leq => exact ⟨_, by simp [binOp, Op.stringOp, eqGuard], .bool _⟩
  case gtr => exact ⟨_, by simp [binOp, Op.stringOp, eqGuard], .bool _⟩
  case geq => exact ⟨_, by simp [binOp, Op.stringOp, eqGuard], .bool _⟩

theorem run_binP (hcx : TabOk P cx.tab) (hcmp : CmpsOk P cx.tab) {op : BinOp} {xT : TypeId} {x y : Operand} {xa ya u : AV} {xv yv : Value} (hx : VRep hdr S xa xv) (hy : VRep hdr S ya yv)
    (e : ex (binP (tiL cx.tab) op xT xa ya) tr h f = some (u, h', f')) :
    h' = h ∧ f' = f ∧ u.ids = [] ∧ ∃ z, ((do eqGuard op xT x y xv yv; binOp op xT xv yv) : Sem Value).run P w = .ok z w ∧ VRep hdr S u z := by
  unfold binP at e
  split at e
  · rename_i k n k' m
    cases hx
    cases hy
    rcases ex_cond e with ⟨hsh, e⟩ | ⟨hsh, e⟩
    · rcases ex_ite e with ⟨_, e⟩ | ⟨h0, e⟩
      · exact (ex_fail e).elim
      obtain ⟨z, hz, e⟩ := ex_opt e
      cases ex_ret e
      exact ⟨rfl, rfl, run_shI hz (of_decide_eq_false h0) xT x y⟩
    · rcases ex_if e with ⟨hk, e1⟩ | ⟨_, e⟩
      case inr => exact (ex_fail e).elim
      subst hk
      rcases ex_cond e1 with ⟨hdiv, e2⟩ | ⟨hdiv, e2⟩
      · rcases ex_ite e2 with ⟨_, e3⟩ | ⟨h0, e3⟩
        · exact (ex_fail e3).elim
        obtain ⟨z, hz, e4⟩ := ex_opt e3
        cases ex_ret e4
        exact ⟨rfl, rfl, run_divI hz (of_decide_eq_false h0) xT x y⟩
      · obtain ⟨z, hz, e3⟩ := ex_opt e2
        cases ex_ret e3
        exact ⟨rfl, rfl, run_binI hz xT x y⟩
  · rename_i b c
    cases hx
    cases hy
    obtain ⟨i, hi, e⟩ := ex_opt e
    rcases ex_cond e with ⟨hb, e⟩ | ⟨_, e⟩
    case inr => exact (ex_fail e).elim
    have hu : P.underlying xT = some .bool := by
      have u := (hcx xT i hi).und
      unfold UndOk at u
      cases hty : i.ty <;> rw [hty] at hb u <;> first | exact u | cases hb
    have g1 : ∀ op, (eqGuard op xT x y (.bool b) (.bool c)).run P w = .ok () w := fun op => by cases op <;> rfl
    have g2 : (Op.equal xT (.bool b) (.bool c)).run P w = .ok (b == c) w := run_equalIn_bool' w 9999 xT b c hu
    split at e
    · cases ex_ret e
      refine ⟨rfl, rfl, rfl, .bool (b == c), ?_, .bool _⟩
      have g3 : binOp .eql xT (.bool b) (.bool c) = (do pure (.bool (← Op.equal xT (.bool b) (.bool c)))) := rfl
      simp only [g3, Sem.run_bind, g1, Result.andThen_ok, g2, Sem.run_pure]
    · cases ex_ret e
      refine ⟨rfl, rfl, rfl, .bool (!(b == c)), ?_, .bool _⟩
      have g3 : binOp .neq xT (.bool b) (.bool c) = (do pure (.bool (!(← Op.equal xT (.bool b) (.bool c))))) := rfl
      simp only [g3, Sem.run_bind, g1, Result.andThen_ok, g2, Sem.run_pure]
    · exact (ex_fail e).elim
  · rename_i b c
    cases hx
    cases hy
    obtain ⟨z, hz, e⟩ := ex_opt e
    cases ex_ret e
    exact ⟨rfl, rfl, run_strB hz xT x y⟩
  · rename_i xs ys
    cases hx with | agg _ vs hx =>
    cases hy with | agg _ us hy =>
    obtain ⟨i, hi, e⟩ := ex_opt e
    rcases ex_cond e with ⟨_, e⟩ | ⟨hc, e⟩
    · exact (ex_fail e).elim
    simp only [Bool.not_eq_false'] at hc
    obtain ⟨b, hb, e⟩ := ex_opt e
    obtain ⟨h1, h2⟩ := hcmp xT i hi hc
    have h3 := h2 w hdr S xs ys vs us b hx hy hb
    split at e
    · cases ex_ret e
      exact ⟨rfl, rfl, rfl, .bool b, by simp only [Sem.run_bind, run_eqGuard_agg w _ xT x y _ _ h1, Result.andThen_ok, run_eql_struct, h3], .bool _⟩
    · cases ex_ret e
      exact ⟨rfl, rfl, rfl, .bool (!b), by simp only [Sem.run_bind, run_eqGuard_agg w _ xT x y _ _ h1, Result.andThen_ok, run_neq_struct, h3], .bool _⟩
    · exact (ex_fail e).elim
  · exact (ex_fail e).elim

theorem sat_binOp (hcx : TabOk P cx.tab) (hcmp : CmpsOk P cx.tab) (pre : Pre P tr ok hdr S h w T a) {op : BinOp} {xT yT : TypeId} {x y : Operand} (ho : o.op = .binOp op xT x y yT)
    (e : ex (opP cx cal T o) tr h f = some (v, h', f')) : Sat P o a w tr ok hdr S h h' v := by
  simp only [opP, ho] at e
  obtain ⟨rfl, rfl, h1, z, h2, h3⟩ := run_binP (x := x) (y := y) (w := w) hcx hcmp (evO_rep pre.tmps x) (evO_rep pre.tmps y) e
  refine Sat.pure pre.real pre.ment ?_ h3 (fun n hn => by rw [h1] at hn; cases hn)
  have h2' := h2
  simp only [Sem.run_bind] at h2'
  simp only [execOp, ho, Sem.run_bind, h2', Result.andThen_ok, Sem.run_pure]
end
end Go.Proofs.YtmjbedjnojcmfaaDoor.Ex

namespace Go.Proofs.YtmjbedjnojcmfaaDoor.Ex
set_option linter.unusedSectionVars false
section
variable [RT] {P : Program} {cx : Ctx} {cal : FuncId → List AV → Prog AV} {o : Oper} {a : Act} {w : World} {T : Tm} {tr : Bool} {ok : Nat → Prop} {hdr : Nat → Value} {S : Stb} {h h' : Hp} {f f' : Foot} {v : AV}

theorem fold_set (off : Nat) : ∀ (vs : List Value) (k : Nat) (cs : Array Value), off + k + vs.length ≤ cs.size →
    ((vs.zipIdx k).foldl (fun (cs : Array Value) (p : Value × Nat) => cs.setIfInBounds (off + p.2) p.1) cs).toList = cs.toList.take (off + k) ++ vs ++ cs.toList.drop (off + k + vs.length)
  | [], k, cs, _ => by simp
  | v :: r, k, cs, hl => by
    simp only [List.length_cons] at hl
    rw [List.zipIdx_cons, List.foldl_cons, fold_set off r (k + 1) _ (by simp; omega)]
    simp only [Array.toList_setIfInBounds]
    rw [show off + (k + 1) = off + k + 1 by omega]
    have hlt : off + k < cs.toList.length := by simp; omega
    have e1 : (cs.toList.set (off + k) v).take (off + k + 1) = cs.toList.take (off + k) ++ [v] := by
      rw [List.take_succ_eq_append_getElem (by simpa using hlt), List.take_set_of_le (Nat.le_refl _)]
      simp
    rw [e1, List.drop_set_of_lt (by omega)]
    simp [Nat.add_assoc, Nat.add_comm, Nat.add_left_comm]

theorem fill_step (place : Nat → Option (Nat × Nat)) (cells : Array Value) (i off size : Nat) (x : Value) (rest : List (Nat × Value)) (hp : place i = some (off, size)) (hs : x.cells.size = size) (hl : off + x.cells.size ≤ cells.size) :
    ∃ cells', cells'.toList = cells.toList.take off ++ x.cells.toList ++ cells.toList.drop (off + x.cells.toList.length) ∧ Instr.fill place cells ((i, x) :: rest) = Instr.fill place cells' rest := by
  refine ⟨x.cells.zipIdx.foldl (fun (cs : Array Value) (p : Value × Nat) => cs.setIfInBounds (off + p.2) p.1) cells, ?_, ?_⟩
  · have := fold_set off x.cells.toList 0 cells (by simpa using hl)
    simp only [Nat.add_zero] at this
    rw [← this, ← Array.foldl_toList, Array.toList_zipIdx]
  · rw [Instr.fill, hp]
    simp only
    rw [if_neg (by simp only [ne_eq, Bool.or_eq_true, decide_eq_true_eq, not_or]; omega)]

theorem fillP_rep (hT : TReal hdr S T a.tmps) (flds : List (Nat × Nat)) (place : Nat → Option (Nat × Nat)) (hpl : ∀ j p, flds[j]? = some p → place j = some p) :
    ∀ (ps : List (Nat × Operand)) (cs cs' : List AV) (cells : Array Value), VReps hdr S cs cells.toList → fillP flds T ps cs = some cs' →
    ∃ cells', Instr.fill place cells (ps.map fun p => (p.1, a.eval p.2)) = some cells' ∧ VReps hdr S cs' cells'.toList
  | [], cs, cs', cells, hr, e => by simp only [fillP, Option.some.injEq] at e; subst e; exact ⟨cells, rfl, hr⟩
  | (i, x) :: r, cs, cs', cells, hr, e => by
    simp only [fillP] at e
    split at e
    · rename_i off n vs h1 h2
      cases hc : (Nat.beq vs.length n && leB (off + n) cs.length) <;> simp only [hc, cond_true, cond_false] at e
      · cases e
      simp only [Bool.and_eq_true] at hc
      have hn := nb_iff.1 hc.1
      have hl := leB_iff.1 hc.2
      have hv := cellsOf_rep (evO_rep hT x) h2
      have hvl := hv.len
      have hrl := hr.len
      obtain ⟨cells1, e1, e2⟩ := fill_step place cells i off n (a.eval x) (r.map fun p => (p.1, a.eval p.2)) (hpl i _ h1) (by simp at hvl; omega) (by simp at hvl hrl; omega)
      obtain ⟨cells', e3, hr'⟩ := fillP_rep hT flds place hpl r _ cs' cells1 (by rw [e1]; exact splice_rep hr hv off) e
      exact ⟨cells', by simp only [List.map_cons]; rw [e2, e3], hr'⟩
    · cases e

theorem fillP_ids (hT : TOk ok T) (flds : List (Nat × Nat)) : ∀ (ps : List (Nat × Operand)) (cs cs' : List AV), (∀ n ∈ AV.idsL cs, ok n) → fillP flds T ps cs = some cs' → ∀ n ∈ AV.idsL cs', ok n
  | [], cs, cs', hr, e => by simp only [fillP, Option.some.injEq] at e; subst e; exact hr
  | (i, x) :: r, cs, cs', hr, e => by
    simp only [fillP] at e
    split at e
    · rename_i off n vs h1 h2
      cases hc : (Nat.beq vs.length n && leB (off + n) cs.length) <;> simp only [hc, cond_true, cond_false] at e
      · cases e
      refine fillP_ids hT flds r _ cs' (fun n hn => ?_) e
      exact (splice_ids hn).elim (hr n) (fun k => evO_ids hT x n (cellsOf_ids h2 k))
    · cases e

theorem mapM_run {α β : Type} (g : α → Sem β) (k : α → β) (w : World) : ∀ (l : List α), (∀ x ∈ l, (g x).run P w = .ok (k x) w) → (l.mapM g).run P w = .ok (l.map k) w
  | [], _ => rfl
  | x :: r, hl => by
    simp only [List.mapM_cons, Sem.run_bind, hl x (by simp), Result.andThen_ok, mapM_run g k w r (fun y hy => hl y (by simp [hy])), Sem.run_pure, List.map_cons]

theorem sat_build (hcx : TabOk P cx.tab) (pre : Pre P tr ok hdr S h w T a) {t : TypeId} {ps : Array (Nat × Operand)} (ho : o.op = .build t ps)
    (e : ex (opP cx cal T o) tr h f = some (v, h', f')) : Sat P o a w tr ok hdr S h h' v := by
  simp only [opP, ho] at e
  obtain ⟨i, hi, e⟩ := ex_opt e
  rcases ex_cond e with ⟨hst, e⟩ | ⟨_, e⟩
  case inr => exact (ex_fail e).elim
  obtain ⟨cs, hcs, e⟩ := ex_opt e
  cases ex_ret e
  have hk := hcx t i hi
  obtain ⟨fs, hu, hn, hf⟩ := hk.struct hst
  obtain ⟨z, hz, hzc⟩ := hk.zero w
  -- where the fields lie
  have hfs : ∀ fd ∈ fs.toList, ∃ fi : TypeInfo, P.info? fd.type = some fi := fun fd hfd => by
    obtain ⟨j, hj, rfl⟩ := List.mem_iff_getElem.1 hfd
    have hj' : j < i.flds.length := by rw [← hn]; simpa using hj
    obtain ⟨fd', fi, k1, _, k3, _⟩ := hf j _ (List.getElem?_eq_getElem hj')
    have : fs.toList[j] = fd' := by
      rw [Array.getElem?_eq_some_iff] at k1
      obtain ⟨_, k1⟩ := k1
      simpa using k1
    rw [this]
    exact ⟨fi, k3⟩
  let pl : Field → Nat × Nat := fun fd => (fd.offset, ((P.info? fd.type).map (·.size)).getD 0)
  have hm : (fs.mapM fun (fd : Field) => (do pure (fd.offset, ← sizeOf fd.type) : Sem (Nat × Nat))).run P w = .ok (fs.toList.map pl).toArray w := by
    rw [Array.mapM_eq_mapM_toList]
    simp only [Sem.run_map]
    rw [mapM_run _ pl w fs.toList (fun fd hfd => ?_)]
    · rfl
    · obtain ⟨fi, k⟩ := hfs fd hfd
      simp [sizeOf, typeInfo, k, pl]
  have hpl : ∀ j p, i.flds[j]? = some p → (fs.toList.map pl).toArray[j]? = some p := fun j p hp => by
    obtain ⟨fd, fi, k1, k2, k3, k4⟩ := hf j p hp
    rw [List.getElem?_toArray, List.getElem?_map, Array.getElem?_toList, k1]
    simp [pl, k2, k3, k4]
  obtain ⟨cells', e1, hr⟩ := fillP_rep pre.tmps i.flds (fun j => (fs.toList.map pl).toArray[j]?) hpl ps.toList (zcells i.ty) cs z.cells (by rw [hzc]; exact zcells_rep i.ty) hcs
  have hids := fillP_ids pre.tok i.flds ps.toList (zcells i.ty) cs (by rw [zcells_ids]; simp) hcs
  refine Sat.pure pre.real pre.ment (u := .agg cells') ?_ (by simpa using VRep.agg cs cells'.toList hr) (by simpa [AV.ids] using hids)
  have e2 : (ps.map fun (x : Nat × Operand) => (x.1, a.eval x.2)).toList = ps.toList.map fun p => (p.1, a.eval p.2) := by simp
  simp only [execOp, ho, Instr.build, Sem.run_bind, hz, Result.andThen_ok, underlying, run_program, hu, Sem.run_pure, hm, e2, e1]

theorem elemsP_rep (e0 : Ty) (T : Tm) (a : Act) (hT : TReal hdr S T a.tmps) (hTo : TOk ok T) : ∀ (ps : List (Nat × Operand)) (j : Nat) (k : List (D e0) → Prog AV) (h : Hp) (f : Foot) (S1 : Stb), (∀ b c, S b = some c → S1 b = some c) →
    HReal hdr S1 h.blks w → Ment ok h.blks → ∀ r, ex (elemsP e0 T j ps k) tr h f = some r →
    ∃ l h1 f1 S2, ex (k l) tr h1 f1 = some r ∧ Post tr ok hdr S1 h w hdr S2 h1 w ∧ h1.c = h.c ∧ l.length = ps.length ∧
      (∀ q (hq : q < ps.length), (ps[q]).1 = j + q) ∧ (∀ q (hq : q < ps.length) (hl : q < l.length), DRep S2 (eTy e0) (a.eval (ps[q]).2).cells.toList (eVal e0 l[q]))
  | [], j, k, h, f, S1, _, hr, hm, r, e => ⟨[], h, f, S1, e, Post.refl hr hm, rfl, rfl, fun q hq => absurd hq (by simp), fun q hq => absurd hq (by simp)⟩
  | (i, x) :: ps, j, k, h, f, S1, hS, hr, hm, r, e => by
    simp only [elemsP] at e
    rcases ex_cond e with ⟨hij, e⟩ | ⟨_, e⟩
    case inr => exact (ex_fail e).elim
    have hij := nb_iff.1 hij
    obtain ⟨vs, hvs, e⟩ := ex_opt e
    have hv := cellsOf_rep ((evO_rep hT x).mono (hdr' := hdr) hS fun _ _ => rfl) hvs
    obtain ⟨vs', h1, f1, S2, e, p1, hv1, _, c1, _⟩ := ex_freeze vs _ h f S1 _ ok hr hm hv _ e
    obtain ⟨d, hd, e⟩ := ex_opt e
    have hdr1 := collapse_rep hv1 hd
    obtain ⟨l, h2, f2, S3, e, p2, c2, hl, hq1, hq2⟩ := elemsP_rep e0 T a hT hTo ps (j + 1) _ h1 f1 S2 (fun b c k => p1.step.sle b c (hS b c k)) p1.real (p1.ment.mono fun n k => okn_self (c := h.c) (by rw [c1] at k; exact k)) _ e
    refine ⟨eMk e0 d :: l, h2, f2, S3, e, p1.trans (p2.weaken fun _ k => .inl k), by rw [c2, c1], by simp [hl], fun q hq => ?_, fun q hq hl' => ?_⟩
    · cases q with
      | zero => simpa using hij
      | succ q => simp only [List.length_cons] at hq; simp only [List.getElem_cons_succ]; rw [hq1 q (by omega)]; omega
    · cases q with
      | zero => simp only [List.getElem_cons_zero, eVal_eMk]; exact hdr1.mono p2.step.sle
      | succ q => simp only [List.length_cons] at hq hl'; simp only [List.getElem_cons_succ]; exact hq2 q (by omega) (by omega)

theorem fill_all (size n : Nat) (x : Operand → Value) : ∀ (ps : List (Nat × Operand)) (j : Nat) (cells : Array Value) (_hj : ∀ q (hq : q < ps.length), (ps[q]).1 = j + q) (_hs : ∀ q (hq : q < ps.length), (x (ps[q]).2).cells.size = size)
    (_hn : j + ps.length ≤ n) (_hc : cells.size = n * size),
    ∃ cells', Instr.fill (fun i => some (i * size, size)) cells (ps.map fun p => (p.1, x p.2)) = some cells' ∧ cells'.size = n * size ∧ (∀ m, m < j * size → cells'[m]? = cells[m]?) ∧
      ∀ q (hq : q < ps.length) m, m < size → cells'[(j + q) * size + m]? = (x (ps[q]).2).cells.toList[m]?
  | [], j, cells, _, _, _, hc => ⟨cells, rfl, hc, fun _ _ => rfl, fun q hq => absurd hq (by simp)⟩
  | (i, y) :: ps, j, cells, hj, hs, hn, hc => by
    simp only [List.length_cons] at hn
    have hi : i = j := hj 0 (by simp)
    subst hi
    have hs0 : (x y).cells.size = size := hs 0 (by simp)
    have hb : i * size + size ≤ n * size := by rw [← Nat.succ_mul]; exact Nat.mul_le_mul_right _ (by omega)
    obtain ⟨cells1, e1, e2⟩ := fill_step (fun i => some (i * size, size)) cells i (i * size) size (x y) (ps.map fun p => (p.1, x p.2)) rfl hs0 (by omega)
    have hl0 : (x y).cells.toList.length = size := by simpa using hs0
    have hc1 : cells1.size = n * size := by
      rw [← Array.length_toList, e1]; simp; omega
    obtain ⟨cells', e3, h1, h2, h3⟩ := fill_all size n x ps (i + 1) cells1 (fun q hq => by have := hj (q + 1) (by simp; omega); simp at this; rw [this]; omega) (fun q hq => hs (q + 1) (by simp; omega)) (by omega) hc1
    have g : ∀ m, cells1[m]? = if m < i * size then cells[m]? else if m < i * size + size then (x y).cells.toList[m - i * size]? else cells[m]? := fun m => by
      have := spl_get cells.toList (x y).cells.toList (i * size) m (by simp; omega)
      rw [← Array.getElem?_toList, e1, this, hl0, Array.getElem?_toList]
    refine ⟨cells', by simp only [List.map_cons]; rw [e2, e3], h1, fun m hm => ?_, fun q hq m hm => ?_⟩
    · rw [h2 m (by rw [Nat.add_mul]; omega), g, if_pos hm]
    · cases q with
      | zero =>
        rw [Nat.add_zero, h2 _ (by rw [Nat.add_mul]; omega), g, if_neg (by omega), if_pos (by omega)]
        simp only [List.getElem_cons_zero]
        congr 1; omega
      | succ q =>
        simp only [List.length_cons] at hq
        have := h3 q (by omega) m hm
        simp only [List.getElem_cons_succ]
        rw [show i + (q + 1) = i + 1 + q by omega, this]

theorem cellsV_rep {T : Tm} {a : Act} (hT : TReal hdr S T a.tmps) {sz : Nat} : ∀ (ps : List (Nat × Operand)) (j : Nat) (cs : List AV), cellsV T sz j ps = some cs →
    cs.length = ps.length * sz ∧ (∀ q (hq : q < ps.length), (ps[q]).1 = j + q) ∧ (∀ q (hq : q < ps.length), (a.eval (ps[q]).2).cells.size = sz) ∧ VReps hdr S cs (ps.flatMap fun p => (a.eval p.2).cells.toList)
  | [], j, cs, e => by
    simp only [cellsV, Option.some.injEq] at e
    subst e
    exact ⟨by simp, fun q hq => absurd hq (by simp), fun q hq => absurd hq (by simp), .nil⟩
  | (i, x) :: ps, j, cs, e => by
    simp only [cellsV] at e
    split at e
    case h_2 => cases e
    rename_i vs cs' h1 h2
    obtain ⟨k1, k2, k3, k4⟩ := cellsV_rep hT ps (j + 1) cs' h2
    cases hb : (i.beq j && Nat.beq vs.length sz) with
    | false => rw [hb] at e; cases e
    | true =>
      rw [hb, cond_true] at e
      cases e
      simp only [Bool.and_eq_true] at hb
      have hij := nb_iff.1 hb.1
      have hl := nb_iff.1 hb.2
      have hv := cellsOf_rep (evO_rep hT x) h1
      have hlen : (a.eval x).cells.size = sz := by rw [← Array.length_toList, ← hv.len, hl]
      refine ⟨by simp [k1, hl, Nat.succ_mul]; omega, fun q hq => ?_, fun q hq => ?_, by rw [List.flatMap_cons]; exact hv.append k4⟩
      · cases q with
        | zero => simpa using hij
        | succ q => simp only [List.length_cons] at hq; simp only [List.getElem_cons_succ]; rw [k2 q (by omega)]; omega
      · cases q with
        | zero => simpa using hlen
        | succ q => simp only [List.length_cons] at hq; simp only [List.getElem_cons_succ]; exact k3 q (by omega)

theorem cellsV_ids {ok : Nat → Prop} {T : Tm} (hTo : TOk ok T) {sz : Nat} : ∀ (ps : List (Nat × Operand)) (j : Nat) (cs : List AV), cellsV T sz j ps = some cs → ∀ m ∈ AV.idsL cs, ok m
  | [], j, cs, e => by
    simp only [cellsV, Option.some.injEq] at e
    subst e
    intro m hm; cases hm
  | (i, x) :: ps, j, cs, e => by
    simp only [cellsV] at e
    split at e
    case h_2 => cases e
    rename_i vs cs' h1 h2
    cases hb : (i.beq j && Nat.beq vs.length sz) with
    | false => rw [hb] at e; cases e
    | true =>
      rw [hb, cond_true] at e
      cases e
      intro m hm
      rw [idsL_append, List.mem_append] at hm
      rcases hm with hm | hm
      · exact evO_ids hTo x m (cellsOf_ids h1 hm)
      · exact cellsV_ids hTo ps (j + 1) cs' h2 m hm

theorem flat_get {α β : Type} {sz : Nat} (g : α → List β) : ∀ (ps : List α), (∀ q (hq : q < ps.length), (g ps[q]).length = sz) → (ps.flatMap g).length = ps.length * sz ∧
    ∀ q (hq : q < ps.length) m, m < sz → (ps.flatMap g)[q * sz + m]? = (g ps[q])[m]?
  | [], _ => ⟨by simp, fun q hq => absurd hq (by simp)⟩
  | p :: ps, h => by
    have h0 : (g p).length = sz := h 0 (by simp)
    obtain ⟨k1, k2⟩ := flat_get g ps fun q hq => h (q + 1) (by simpa using hq)
    refine ⟨by simp only [List.flatMap_cons, List.length_append, h0, k1, List.length_cons, Nat.succ_mul]; omega, fun q hq m hm => ?_⟩
    rw [List.flatMap_cons]
    cases q with
    | zero => rw [List.getElem?_append_left (by omega)]; simp
    | succ q =>
      simp only [List.length_cons] at hq
      rw [List.getElem?_append_right (by rw [Nat.succ_mul]; omega), h0, show (q + 1) * sz + m - sz = q * sz + m by rw [Nat.succ_mul]; omega, k2 q (by omega) m hm]
      rfl

theorem sat_buildSlice (hcx : TabOk P cx.tab) (pre : Pre P tr ok hdr S h w T a) (hO : ∀ id, ok id → Out tr h.c h'.c id) {t : TypeId} {n : Nat} {ps : Array (Nat × Operand)} (ho : o.op = .buildSlice t n ps)
    (e : ex (opP cx cal T o) tr h f = some (v, h', f')) : Sat P o a w tr ok hdr S h h' v := by
  simp only [opP, ho] at e
  obtain ⟨i, hi, e⟩ := ex_opt e
  obtain ⟨ie, hie, e⟩ := ex_opt e
  obtain ⟨e0, he0, e⟩ := ex_opt e
  rcases ex_cond e with ⟨hc, e⟩ | ⟨_, e⟩
  case inr => exact (ex_fail e).elim
  simp only [Bool.and_eq_true] at hc
  have hn := nb_iff.1 hc.1
  have hlim := leB_iff.1 hc.2
  have hsl : i.ty = .sl e0 := by
    cases hty : i.ty <;> rw [hty] at he0 <;> simp only [slTy, reduceCtorEq, Option.some.injEq] at he0
    rw [he0]
  obtain ⟨hu, ie', hie', hety⟩ := (hcx t i hi).slice hsl
  rw [hie] at hie'
  cases hie'
  have hk := hcx _ ie hie
  obtain ⟨z, hz, hzc⟩ := hk.zero w
  let z0 : Array Value := if n * ie.ty.size = 0 then #[] else z.cells
  have hrun : ∀ cells', Instr.fill (fun i => some (i * ie.ty.size, ie.ty.size)) ((Array.range (n * ie.ty.size)).map (z0[· % z0.size]!)) (ps.toList.map fun p => (p.1, a.eval p.2)) = some cells' →
      (execOp a.eval o).run P w = .ok (.value (.slice (some ⟨w.heap.size, 0, none⟩) n n)) (w.alloc (.cells cells' i.elem)) := by
    intro cells' e1
    have e2 : (ps.map fun (x : Nat × Operand) => (x.1, a.eval x.2)).toList = ps.toList.map fun p => (p.1, a.eval p.2) := by simp
    have hle : ¬ (2 ^ 24 < n * ie.ty.size) := by rw [hety]; omega
    by_cases hnz : n * ie.ty.size = 0
    · have ez : z0 = #[] := if_pos hnz
      rw [ez] at e1
      simp only [execOp, ho, Instr.buildSlice, Sem.run_bind, underlying, run_program, hu, Result.andThen_ok, Sem.run_pure, hk.sizeOf, e2, gt_iff_lt, hle, if_false, if_pos hnz, e1, newRow, run_newObj]
      rfl
    · have ez : z0 = z.cells := if_neg hnz
      rw [ez] at e1
      simp only [execOp, ho, Instr.buildSlice, Sem.run_bind, underlying, run_program, hu, Result.andThen_ok, Sem.run_pure, hk.sizeOf, e2, gt_iff_lt, hle, if_false, if_neg hnz, hz, e1, newRow, run_newObj]
      rfl
  rcases ex_cond e with ⟨hvr, e⟩ | ⟨_, e⟩
  · rcases ex_cond e with ⟨h1n, e⟩ | ⟨_, e⟩
    case inr => exact (ex_fail e).elim
    have h1n := leB_iff.1 h1n
    obtain ⟨cs, hcs, e⟩ := ex_opt e
    obtain ⟨k1, k2, k3, k4⟩ := cellsV_rep pre.tmps ps.toList 0 cs hcs
    obtain ⟨cells', e1, g1, _, g3⟩ := fill_all ie.ty.size n a.eval ps.toList 0 ((Array.range (n * ie.ty.size)).map (z0[· % z0.size]!)) k2 (by rw [hety]; exact k3) (by omega) (by simp)
    obtain ⟨f1, f2⟩ := flat_get (fun p : Nat × Operand => (a.eval p.2).cells.toList) ps.toList (sz := (eTy e0).size) fun q hq => by rw [Array.length_toList]; exact k3 q hq
    have heq : cells'.toList = ps.toList.flatMap fun p => (a.eval p.2).cells.toList := by
      apply List.ext_getElem?
      intro k
      by_cases hk' : k < n * (eTy e0).size
      · have hsz : 0 < (eTy e0).size := by
          rcases Nat.eq_zero_or_pos (eTy e0).size with q | q
          · rw [q] at h1n; omega
          · exact q
        have hq : k / (eTy e0).size < ps.toList.length := by rw [hn]; exact (Nat.div_lt_iff_lt_mul hsz).2 hk'
        have hm := Nat.mod_lt k hsz
        have hd : k = k / (eTy e0).size * (eTy e0).size + k % (eTy e0).size := by rw [Nat.mul_comm]; exact (Nat.div_add_mod k _).symm
        have a1 := f2 _ hq _ hm
        have a2 := g3 _ hq (k % (eTy e0).size) (by rw [hety]; exact hm)
        rw [Nat.zero_add, hety, ← hd] at a2
        rw [← hd] at a1
        rw [a1, Array.getElem?_toList, a2]
      · rw [List.getElem?_eq_none (by rw [Array.length_toList, g1, hety]; omega), List.getElem?_eq_none (by rw [f1, hn]; omega)]
    have e := ex_new e
    cases ex_ret e
    have hids : ∀ m ∈ AV.idsL cs, ok m := fun m hm => cellsV_ids pre.tok ps.toList 0 cs hcs m hm
    have hp := post_new (tr := tr) pre.real pre.ment hO (.box cs) hids (.cells cells' i.elem) (.pointer (some ⟨w.heap.size, 0, none⟩)) (.inr rfl) (fun hdr' q1 q2 =>
      .box cs w.heap.size cells'.toList i.elem q2 (by rw [heap_alloc_new]) ((heq ▸ k4).mono (fun _ _ k => k) fun m hm => q1 m (hids m hm)))
    refine Sat.value (hrun cells' e1) hp ?_ (fun m hm => ?_)
    · exact .vsl e0 h.c _ n w.heap.size n (hdrN_same _ _ _) (Nat.le_refl _)
    · simp [AV.ids] at hm; subst hm; exact .inr ⟨Nat.le_refl _, Nat.lt_succ_self _⟩
  obtain ⟨l, h1, f1, S1, e, p1, c1, hl, hq1, hq2⟩ := elemsP_rep (tr := tr) e0 T a pre.tmps pre.tok ps.toList 0 _ h f S (fun _ _ k => k) pre.real pre.ment _ e
  have e := ex_new e
  cases ex_ret e
  have hsize : ∀ q (hq : q < ps.toList.length), (a.eval (ps.toList[q]).2).cells.size = ie.ty.size := fun q hq => by
    have := (hq2 q hq (by omega)).len
    rw [hety]
    simpa using this
  obtain ⟨cells', e1, k1, _, k3⟩ := fill_all ie.ty.size n a.eval ps.toList 0 ((Array.range (n * ie.ty.size)).map (z0[· % z0.size]!)) hq1 hsize (by omega) (by simp)
  have hrun := hrun cells' e1
  have hp2 := post_new' (tr := tr) p1.real (p1.ment.mono fun m k => okn_self (c := h.c) (by rw [c1] at k; exact k)) (fun id hid => by have := hO id hid; rw [c1]; simpa [c1] using this) (.row e0 l) (fun n hn => by cases hn)
    (w.alloc (.cells cells' i.elem)) rfl rfl rfl (by simp) (heap_alloc_lt w _) (.slice (some ⟨w.heap.size, 0, none⟩) n n) (by cases n <;> first | exact .inl rfl | exact .inr rfl) (fun hdr' g1 g2 => ?_)
  · refine Sat.value hrun (p1.trans (hp2.weaken fun _ k => .inl k)) ?_ (fun m hm => ?_)
    · exact .row _ _ _ _ (hdrN_same _ _ _)
    · simp [AV.ids] at hm; subst hm; exact .inr ⟨by omega, by simp⟩
  · cases n with
    | zero =>
      have : l = [] := List.length_eq_zero_iff.1 (by omega)
      subst this
      exact .rowNil _ _ g2
    | succ n =>
      have hll : l.length = n + 1 := by omega
      refine .row e0 l w.heap.size (n + 1) cells' i.elem (by rw [hll]; exact g2) (by omega) (by rw [heap_alloc_new]) (by omega) (by rw [k1, hety]) (fun q hq => ?_)
      refine ⟨(a.eval (ps.toList[q]'(by omega)).2).cells.toList, ?_, fun m hm => ?_, hq2 q (by omega) hq⟩
      · rw [← hety, Array.length_toList]; exact hsize q (by omega)
      · have := k3 q (by omega) m (by rw [hety]; exact hm)
        rw [← this, hety, Nat.zero_add, Nat.zero_add]
end
end Go.Proofs.YtmjbedjnojcmfaaDoor.Ex

namespace Go.Proofs.YtmjbedjnojcmfaaDoor.Ex
set_option linter.unusedSectionVars false
section
variable [RT] {P : Program} {cx : Ctx} {cal : FuncId → List AV → Prog AV} {o : Oper} {a : Act} {w : World} {T : Tm} {tr : Bool} {ok : Nat → Prop} {hdr : Nat → Value} {S : Stb} {h h' : Hp} {f f' : Foot} {v : AV}

theorem slTy_eq {t e : Ty} (k : slTy t = some e) : t = .sl e := by
  cases t <;> simp only [slTy, reduceCtorEq, Option.some.injEq] at k
  rw [k]

theorem zeroD_rep {e : Ty} {z : D e} (k : zeroD e = some z) (S : Stb) : DRep S (eTy e) (zvals (eTy e)) (eVal e z) := by
  unfold zeroD at k
  rw [Option.map_eq_some_iff] at k
  obtain ⟨d, hd, rfl⟩ := k
  rw [eVal_eMk]
  exact collapse_rep (hdr := fun _ => undef) (zcells_rep (eTy e)) hd

theorem sat_makeSlice (hcx : TabOk P cx.tab) (pre : Pre P tr ok hdr S h w T a) (hO : ∀ id, ok id → Out tr h.c h'.c id) {t : TypeId} {x y : Operand} (ho : o.op = .makeSlice t x y)
    (e : ex (opP cx cal T o) tr h f = some (v, h', f')) : Sat P o a w tr ok hdr S h h' v := by
  simp only [opP, ho] at e
  obtain ⟨i, hi, e⟩ := ex_opt e
  obtain ⟨ie, hie, e⟩ := ex_opt e
  obtain ⟨e0, he0, e⟩ := ex_opt e
  have hsl := slTy_eq he0
  obtain ⟨hu, ie', hie', hety⟩ := (hcx t i hi).slice hsl
  rw [hie] at hie'
  cases hie'
  have hx := evO_rep pre.tmps x
  have hy := evO_rep pre.tmps y
  generalize hxv : a.eval x = xv at hx
  generalize hyv : a.eval y = yv at hy
  split at e
  · rename_i n m hev1 hev2
    rw [hev1] at hx
    rw [hev2] at hy
    cases hx
    cases hy
    rcases ex_ite e with ⟨hc, e1⟩ | ⟨_, e1⟩
    case inr => exact (ex_fail e1).elim
    obtain ⟨h0, hnm, hlim⟩ := of_decide_eq_true hc
    subst hnm
    obtain ⟨z, hz, e2⟩ := ex_opt e1
    have e3 := ex_new e2
    cases ex_ret e3
    obtain ⟨inf, zv, q1, q2, q3, q4, q5⟩ := (hcx _ ie hie).info
    obtain ⟨c, rfl⟩ := Int.eq_ofNat_of_zero_le h0
    simp only [Int.toNat_natCast, lim] at hlim
    rw [Nat.mul_add, Nat.mul_one] at hlim
    have hrun := run_make (P := P) w t i.elem inf zv hu q1 q4 .i64 .i64 (c : Int) (c : Int) h0 (Int.le_refl _) (by rw [q3]; rw [← Int.natCast_mul, Nat.mul_comm]; omega) (by omega)
    simp only [Int.toNat_natCast] at hrun ⊢
    refine Sat.value (u := .slice (some ⟨w.heap.size, 0, none⟩) c c) (w' := w.alloc (.cells (madeCells zv.cells (c * inf.size)) i.elem)) ?_ (post_new' pre.real pre.ment hO (.row e0 (List.replicate c z)) (fun n hn => by cases hn) (w.alloc (.cells (madeCells zv.cells (c * inf.size)) i.elem)) rfl rfl rfl (by simp) (heap_alloc_lt w _)
      (.slice (some ⟨w.heap.size, 0, none⟩) c c) (by cases c <;> first | exact .inl rfl | exact .inr rfl) (fun hdr' g1 g2 => ?_)) (.row _ _ _ _ (hdrN_same _ _ _)) (fun m hm => ?_)
    · simp [execOp, ho, hxv, hyv, hrun]
    · cases c with
      | zero => exact .rowNil _ _ g2
      | succ c =>
        refine .row e0 _ w.heap.size (c + 1) _ i.elem (by simpa using g2) (by omega) (by rw [heap_alloc_new]) (by simp) (by rw [size_madeCells, q2, hety]) (fun q hq => ?_)
        rw [List.length_replicate] at hq
        have hzl : zv.cells.size = (eTy e0).size := by rw [← hety, ← zvals_len, ← q5]; simp
        refine ⟨zvals (eTy e0), zvals_len _, fun m hm => ?_, ?_⟩
        · have hb : q * (eTy e0).size + (eTy e0).size ≤ (c + 1) * (eTy e0).size := by rw [← Nat.succ_mul]; exact Nat.mul_le_mul_right _ (by omega)
          rw [hety] at q2 q5
          have hlt : 0 + q * (eTy e0).size + m < (c + 1) * inf.size := by rw [q2]; omega
          have hmod : (0 + q * (eTy e0).size + m) % zv.cells.size = m := by rw [hzl, Nat.zero_add, Nat.mul_comm, Nat.mul_add_mod, Nat.mod_eq_of_lt hm]
          simp only [madeCells, Array.getElem?_map, Array.getElem?_range, hlt, if_true, Option.map_some, hmod]
          rw [← q5, Array.getElem?_toList, Array.getElem?_eq_getElem (by omega), getElem!_pos zv.cells m (by omega)]
        · rw [List.getElem_replicate]; exact zeroD_rep hz S
    · simp [AV.ids] at hm; subst hm; exact .inr ⟨Nat.le_refl _, Nat.lt_succ_self _⟩
  · exact (ex_fail e).elim

theorem run_part {t : TypeId} {i : TInfo} {tab : List (TypeId × TInfo)} (k : TyOk P tab t i) {cs : Array Value} (off : Nat) (h : off + i.ty.size ≤ cs.size) : (part t cs off).run P w = .ok (packV i.ty ((cs.toList.drop off).take i.ty.size)) w := by
  unfold part
  simp only [Sem.run_bind, k.isAgg, Result.andThen_ok]
  cases e : isSt i.ty
  · have h1 := nonSt_size k rfl e
    rw [h1] at h ⊢
    have hlt : off < cs.size := by omega
    have hd : (cs.toList.drop off).take 1 = [cs[off]] := by
      rw [List.drop_eq_getElem_cons (by simpa using hlt)]
      simp
    simp [packV, e, hd, Array.getElem?_eq_getElem hlt]
  · simp only [if_true, Sem.run_bind, k.sizeOf, Result.andThen_ok, Sem.run_pure]
    congr 1
    unfold packV
    rw [e, cond_true]
    congr 1
    apply Array.ext'
    simp

theorem sat_field (hcx : TabOk P cx.tab) (pre : Pre P tr ok hdr S h w T a) {t : TypeId} {x : Operand} {ix : Nat} (ho : o.op = .field t x ix)
    (e : ex (opP cx cal T o) tr h f = some (v, h', f')) : Sat P o a w tr ok hdr S h h' v := by
  simp only [opP, ho] at e
  obtain ⟨i, hi, e⟩ := ex_opt e
  have hx := evO_rep pre.tmps x
  have hxi := evO_ids pre.tok x
  generalize hxv : a.eval x = xv at hx
  split at e
  · rename_i g cs hty hev
    rw [hev] at hx hxi
    obtain ⟨⟨off, τ⟩, hp, e⟩ := ex_opt e
    obtain ⟨ds, hs, e⟩ := ex_opt e
    cases ex_ret e
    obtain ⟨hl, rfl⟩ := subL_some hs
    obtain ⟨fs, hu, hf⟩ := (hcx t i hi).fld g hty
    obtain ⟨fd, i', k1, k2, k3, rfl⟩ := hf ix off τ hp
    cases hx with | agg _ vs hr =>
    have hlen := hr.len
    simp only at hl
    refine Sat.pure pre.real pre.ment (u := packV i'.ty ((vs.drop off).take i'.ty.size)) ?_ (pack_rep _ ((hr.drop off).take _)) (fun n hn => hxi n (by simp only [AV.ids]; exact idsL_drop (idsL_take (pack_ids hn))))
    have hrun := run_part (P := P) (w := w) (hcx _ i' k3) (cs := vs.toArray) off (by simp only [List.size_toArray]; omega)
    simp [execOp, ho, hxv, Instr.field, underlying, hu, k1, asAgg, k2, hrun]
  · exact (ex_fail e).elim

theorem run_sliceBound (k : IntKind) (n : Int) (y : Nat) (code : BoundsCode) (h0 : 0 ≤ n) (h1 : n ≤ (y : Int)) : (Instr.sliceBound (.int k n) y code).run P w = .ok n.toNat w := by
  simp [Instr.sliceBound, asIntOf, h0, h1]

theorem sliceBounds_run (isS : Bool) (len cap : Nat) (lo hi : Option Value) (l h : Nat) (hlo : lo = none ∧ l = 0 ∨ ∃ k n, lo = some (.int k n) ∧ 0 ≤ n ∧ n.toNat = l) (hhi : hi = none ∧ h = len ∨ ∃ k n, hi = some (.int k n) ∧ 0 ≤ n ∧ n.toNat = h)
    (h1 : l ≤ h) (h2 : h ≤ len) (h3 : len ≤ cap) : (Instr.sliceBounds isS len cap lo hi none).run P w = .ok (l, h, cap) w := by
  unfold Instr.sliceBounds
  rcases hhi with ⟨rfl, rfl⟩ | ⟨k, n, rfl, p0, rfl⟩ <;> rcases hlo with ⟨rfl, rfl⟩ | ⟨k', m, rfl, p0', rfl⟩
  · simp
  · simp [run_sliceBound k' m h _ p0' (by omega)]
  · simp [run_sliceBound k n cap _ p0 (by omega)]
  · simp [run_sliceBound k n cap _ p0 (by omega), run_sliceBound k' m n.toNat _ p0' (by omega)]

theorem opnd_int (pre : Pre P tr ok hdr S h w T a) {x : Operand} {k : IntKind} {n : Int} (e : evO T x = .int k n) : a.eval x = .int k n := by
  have hx := evO_rep pre.tmps x
  rw [e] at hx
  generalize hxv : a.eval x = xv at hx
  cases hx
  rfl

theorem sat_slice (hcx : TabOk P cx.tab) (pre : Pre P tr ok hdr S h w T a) {t : TypeId} {x : Operand} {lo hi mx : Option Operand} (ho : o.op = .slice t x lo hi mx)
    (e : ex (opP cx cal T o) tr h f = some (v, h', f')) : Sat P o a w tr ok hdr S h h' v := by
  simp only [opP, ho] at e
  obtain ⟨i, hi', e⟩ := ex_opt e
  cases mx with
  | some m =>
    simp only at e
    rcases ex_cond e with ⟨hc, e⟩ | ⟨_, e⟩
    case inr => exact (ex_fail e).elim
    simp only [Bool.and_eq_true] at hc
    obtain ⟨⟨⟨⟨c1, c2⟩, c3⟩, c4⟩, c5⟩ := hc
    obtain ⟨ie, hie, e⟩ := ex_opt e
    cases ex_ret e
    obtain ⟨e1, he1⟩ := isSl_eq c1
    obtain ⟨hu, _⟩ := (hcx t i hi').slice he1
    have hx := evO_rep pre.tmps x
    generalize hxv : a.eval x = xv at hx
    have hz : ∀ {y : Operand}, isZ (evO T y) = true → ∃ k, a.eval y = .int k 0 := fun {y} hy => by
      unfold isZ at hy
      split at hy
      · rename_i k n hk
        simp only [beq_iff_eq] at hy
        subst hy
        exact ⟨k, opnd_int pre hk⟩
      · cases hy
    obtain ⟨km, hm⟩ := hz c5
    have hsl : ∃ (ao : Option Addr) (len cap : Nat), xv = .slice ao len cap := by
      revert c2 hx
      generalize evO T x = xa
      intro c2 hx
      cases xa <;> first | cases c2 | skip
      · cases hx with | nil ao => exact ⟨ao, 0, 0, rfl⟩
      · cases hx with | sl _ _ _ hd => cases hd <;> exact ⟨_, _, _, rfl⟩
      · cases hx with | row _ ao len cap _ => exact ⟨ao, len, cap, rfl⟩
    obtain ⟨ao, len, cap, rfl⟩ := hsl
    have hhi : ∃ k, hi.map a.eval = some (.int k 0) := by
      cases hi with
      | none => cases c4
      | some y => obtain ⟨k, hk⟩ := hz c4; exact ⟨k, by simp only [Option.map_some, hk]⟩
    obtain ⟨kh, hh⟩ := hhi
    have hlo : lo.map a.eval = none ∨ ∃ k, lo.map a.eval = some (.int k 0) := by
      cases lo with
      | none => exact .inl rfl
      | some y => obtain ⟨k, hk⟩ := hz c3; exact .inr ⟨k, by simp only [Option.map_some, hk]⟩
    have hbb : (Instr.sliceBounds true len cap (lo.map a.eval) (hi.map a.eval) (some (.int km 0))).run P w = .ok (0, 0, 0) w := by
      unfold Instr.sliceBounds
      rw [hh]
      rcases hlo with hl | ⟨k, hl⟩ <;> rw [hl]
      · simp [run_sliceBound km 0 cap _ (Int.le_refl 0) (by omega), run_sliceBound kh 0 0 _ (Int.le_refl 0) (by omega)]
      · simp [run_sliceBound km 0 cap _ (Int.le_refl 0) (by omega), run_sliceBound kh 0 0 _ (Int.le_refl 0) (by omega), run_sliceBound k 0 0 _ (Int.le_refl 0) (by omega)]
    refine Sat.pure pre.real pre.ment (u := .slice ao 0 0) ?_ (.nil ao) (fun q hq => by cases hq)
    simp [execOp, ho, hxv, hm, Instr.sliceAt, underlying, hu, Instr.slice, hbb, (hcx _ ie hie).sizeOf]
  | none =>
  simp only at e
  have hx := evO_rep pre.tmps x
  generalize hxv : a.eval x = xv at hx
  have hlo : ∀ (k : IntKind) (n : Int), (match lo with | some y => evO T y | none => AV.int .i64 0) = .int k n → (lo.map a.eval = none ∧ n = 0) ∨ ∃ k, lo.map a.eval = some (.int k n) := by
    intro k n hk
    cases lo with
    | none => simp only [AV.int.injEq] at hk; exact .inl ⟨rfl, hk.2.symm⟩
    | some y => exact .inr ⟨k, by simp only [Option.map_some]; rw [opnd_int pre hk]⟩
  have hhi : ∀ (k : IntKind) (n : Int) (d : Nat), (match hi with | some y => evO T y | none => AV.int .i64 (d : Int)) = .int k n → (hi.map a.eval = none ∧ n = (d : Int)) ∨ ∃ k, hi.map a.eval = some (.int k n) := by
    intro k n d hk
    cases hi with
    | none => simp only [AV.int.injEq] at hk; exact .inl ⟨rfl, hk.2.symm⟩
    | some y => exact .inr ⟨k, by simp only [Option.map_some]; rw [opnd_int pre hk]⟩
  split at e
  · rename_i e0 s k n hev hlv
    rw [hev] at hx
    rcases ex_cond e with ⟨hsz, e⟩ | ⟨_, e⟩
    case inr => exact (ex_fail e).elim
    obtain ⟨ie, hie, e⟩ := ex_opt e
    rcases ex_cond e with ⟨hsz2, e⟩ | ⟨_, e⟩
    case inr => exact (ex_fail e).elim
    have hsz2 := nb_iff.1 hsz2
    split at e
    · rename_i k' m hhv
      rcases ex_ite e with ⟨hc, e⟩ | ⟨_, e⟩
      case inr => exact (ex_fail e).elim
      obtain ⟨c1, c2, c3⟩ := of_decide_eq_true hc
      cases ex_ret e
      obtain ⟨e1, he1⟩ := isSl_eq hsz
      obtain ⟨hu, _⟩ := (hcx t i hi').slice he1
      cases hx with | sl _ _ v hd =>
      have hb : ∀ (len cap : Nat), len = s.length → len ≤ cap → (Instr.sliceBounds true len cap (lo.map a.eval) (hi.map a.eval) none).run P w = .ok (n.toNat, m.toNat, cap) w := fun len cap el hcap => by
        refine sliceBounds_run true len cap _ _ n.toNat m.toNat ?_ ?_ (by omega) (by omega) hcap
        · rcases hlo k n hlv with ⟨q1, q2⟩ | ⟨k2, q1⟩
          · exact .inl ⟨q1, by omega⟩
          · exact .inr ⟨k2, n, q1, c1, rfl⟩
        · rcases hhi k' m s.length hhv with ⟨q1, q2⟩ | ⟨k2, q1⟩
          · exact .inl ⟨q1, by omega⟩
          · exact .inr ⟨k2, m, q1, by omega, rfl⟩
      cases hd with
      | slNil _ ao cap =>
        simp only [List.length_nil] at c3
        have hn0 : n.toNat = 0 := by omega
        have hm0 : m.toNat = 0 := by omega
        have hbb := hb 0 cap rfl (Nat.zero_le _)
        rw [hn0, hm0] at hbb
        refine Sat.pure pre.real pre.ment (u := .slice (if cap = 0 then ao else ao.map (·.add (0 * ie.ty.size))) 0 cap) ?_ (.sl _ _ _ ?_) (fun q hq => by cases hq)
        · simp [execOp, ho, hxv, Instr.sliceAt, underlying, hu, Instr.slice, hbb, (hcx _ ie hie).sizeOf]
        · have : (List.drop n.toNat (List.take m.toNat ([] : List (D e0)))) = [] := by simp
          rw [this]; exact .slNil e0 _ cap
      | sl _ b o0 cap _ cells cf hS hcap hs hc' hr =>
        have hbb := hb s.length cap rfl hcap
        have hlen : ((s.take m.toNat).drop n.toNat).length = m.toNat - n.toNat := by simp; omega
        refine Sat.pure pre.real pre.ment (u := .slice (if cap = n.toNat then some ⟨b, o0, none⟩ else some ((⟨b, o0, none⟩ : Addr).add (n.toNat * ie.ty.size))) (m.toNat - n.toNat) (cap - n.toNat)) ?_ (.sl _ _ _ ?_) (fun q hq => by cases hq)
        · simp [execOp, ho, hxv, Instr.sliceAt, underlying, hu, Instr.slice, hbb, (hcx _ ie hie).sizeOf]
        · rw [← hlen]
          by_cases hcn : cap = n.toNat
          · have hl0 : (s.take m.toNat).drop n.toNat = [] := List.length_eq_zero_iff.1 (by omega)
            rw [hl0]; exact .slNil e0 _ _
          · rw [if_neg hcn, add_mk]
            refine DRep.ofERep hS (by omega) (fun q hq => ?_)
            rw [hlen] at hq
            refine ⟨cf (n.toNat + q), hs _ (by omega), fun p hp => ?_, ?_⟩
            · have := hc' (n.toNat + q) p (by omega) hp
              rw [← this, hsz2, Nat.add_mul, ← Nat.add_assoc]
            · have := hr (n.toNat + q) (by omega)
              simpa [List.getElem_drop, List.getElem_take] using this
    · exact (ex_fail e).elim
  · rename_i id k n hev hlv
    rw [hev] at hx
    rcases ex_cond e with ⟨hsz, e⟩ | ⟨_, e⟩
    case inr => exact (ex_fail e).elim
    obtain ⟨ie, hie, e⟩ := ex_opt e
    obtain ⟨b, hb, e⟩ := ex_get e
    split at e
    case h_2 => exact (ex_fail e).elim
    rename_i e0 l
    rcases ex_cond e with ⟨hsz2, e⟩ | ⟨_, e⟩
    case inr => exact (ex_fail e).elim
    have hsz2 := nb_iff.1 hsz2
    split at e
    case h_2 => exact (ex_fail e).elim
    rename_i k' m hhv
    rcases ex_ite e with ⟨hc, e⟩ | ⟨_, e⟩
    case inr => exact (ex_fail e).elim
    obtain ⟨c1, c2, c3⟩ := of_decide_eq_true hc
    cases ex_ret e
    obtain ⟨e1, he1⟩ := isSl_eq hsz
    obtain ⟨hu, _⟩ := (hcx t i hi').slice he1
    have br := pre.real.blk id _ hb
    cases hx with | row _ ao len cap hh =>
    have hlc : len = l.length ∧ l.length ≤ cap ∧ (l = [] ∨ ∃ bb, ao = some ⟨bb, 0, none⟩) := by
      cases br with
      | rowNil _ a0 hh' => rw [hh] at hh'; cases hh'; exact ⟨rfl, Nat.le_refl _, .inl rfl⟩
      | row _ _ b' cap' vs et hh' hcap hw hl hs hre => rw [hh] at hh'; cases hh'; exact ⟨rfl, hl, .inr ⟨_, rfl⟩⟩
    obtain ⟨rfl, hcap, hao⟩ := hlc
    have hbb : (Instr.sliceBounds true l.length cap (lo.map a.eval) (hi.map a.eval) none).run P w = .ok (n.toNat, m.toNat, cap) w := by
      refine sliceBounds_run true l.length cap _ _ n.toNat m.toNat ?_ ?_ (by omega) (by omega) hcap
      · rcases hlo k n hlv with ⟨q1, q2⟩ | ⟨k2, q1⟩
        · exact .inl ⟨q1, by omega⟩
        · exact .inr ⟨k2, n, q1, c1, rfl⟩
      · rcases hhi k' m l.length hhv with ⟨q1, q2⟩ | ⟨k2, q1⟩
        · exact .inl ⟨q1, by omega⟩
        · exact .inr ⟨k2, m, q1, by omega, rfl⟩
    refine Sat.pure pre.real pre.ment (u := .slice (if cap = n.toNat then ao else ao.map (·.add (n.toNat * ie.ty.size))) (m.toNat - n.toNat) (cap - n.toNat)) ?_ (.sub _ _ _ _ _ _ ?_ (by omega)) (fun q hq => ?_)
    · simp [execOp, ho, hxv, Instr.sliceAt, underlying, hu, Instr.slice, hbb, (hcx _ ie hie).sizeOf]
    · rcases Nat.lt_or_ge n.toNat m.toNat with hlt | hge
      · rcases hao with rfl | ⟨bb, rfl⟩
        · simp only [List.length_nil] at c3; omega
        · refine .inr ⟨bb, l.length, cap, hh, by omega, ?_⟩
          rw [if_neg (by omega), hsz2, Option.map_some, add_mk, Nat.zero_add]
      · exact .inl hge
    · have hxi := evO_ids pre.tok x
      rw [hev] at hxi
      exact hxi q (by simpa [AV.ids] using hq)
  · rename_i s k n hev hlv
    rw [hev] at hx
    rcases ex_cond e with ⟨hsz, e⟩ | ⟨_, e⟩
    case inr => exact (ex_fail e).elim
    have hu : P.underlying t = some .string := by
      have u := (hcx t i hi').und
      unfold UndOk at u
      cases hty : i.ty <;> rw [hty] at hsz u <;> first | exact u | cases hsz
    split at e
    · rename_i k' m hhv
      rcases ex_ite e with ⟨hc, e⟩ | ⟨_, e⟩
      case inr => exact (ex_fail e).elim
      obtain ⟨c1, c2, c3⟩ := of_decide_eq_true hc
      cases ex_ret e
      cases hx
      have hbb : (Instr.sliceBounds false s.size s.size (lo.map a.eval) (hi.map a.eval) none).run P w = .ok (n.toNat, m.toNat, s.size) w := by
        refine sliceBounds_run false s.size s.size _ _ n.toNat m.toNat ?_ ?_ (by omega) (by omega) (Nat.le_refl _)
        · rcases hlo k n hlv with ⟨q1, q2⟩ | ⟨k2, q1⟩
          · exact .inl ⟨q1, by omega⟩
          · exact .inr ⟨k2, n, q1, c1, rfl⟩
        · rcases hhi k' m s.size hhv with ⟨q1, q2⟩ | ⟨k2, q1⟩
          · exact .inl ⟨q1, by omega⟩
          · exact .inr ⟨k2, m, q1, by omega, rfl⟩
      exact Sat.pure pre.real pre.ment (by simp [execOp, ho, hxv, Instr.sliceAt, underlying, hu, Instr.slice, hbb]) (.str _) (fun q hq => by cases hq)
    · exact (ex_fail e).elim
  · exact (ex_fail e).elim

theorem sat_index (hcx : TabOk P cx.tab) (pre : Pre P tr ok hdr S h w T a) {t : TypeId} {x ix : Operand} (ho : o.op = .index t x ix)
    (e : ex (opP cx cal T o) tr h f = some (v, h', f')) : Sat P o a w tr ok hdr S h h' v := by
  simp only [opP, ho] at e
  obtain ⟨i, hi', e⟩ := ex_opt e
  rcases ex_cond e with ⟨hsz, e⟩ | ⟨_, e⟩
  case inr => exact (ex_fail e).elim
  have hu : P.underlying t = some .string := by
    have u := (hcx t i hi').und
    unfold UndOk at u
    cases hty : i.ty <;> rw [hty] at hsz u <;> first | exact u | cases hsz
  have hx := evO_rep pre.tmps x
  generalize hxv : a.eval x = xv at hx
  split at e
  · rename_i s k n hev hiv
    rw [hev] at hx
    rcases ex_ite e with ⟨hc, e⟩ | ⟨_, e⟩
    case inr => exact (ex_fail e).elim
    have hc := of_decide_eq_true hc
    obtain ⟨b, hb, e⟩ := ex_opt e
    cases ex_ret e
    cases hx
    have hix := opnd_int pre hiv
    obtain ⟨hlt, hbe⟩ : ∃ q : n.toNat < s.size, s[n.toNat] = b := getElem?_eq_some_iff.1 hb
    have hr : (Instr.index t (.string s) (.int k n)).run P w = .ok (.int .u8 (b.toNat : Nat)) w := by
      rw [run_index_string w t s k n hu, dif_pos ⟨hc, by omega⟩, hbe]
    exact Sat.pure pre.real pre.ment (by simp [execOp, ho, hxv, hix, hr]) (.int _ _) (fun q hq => by cases hq)
  · exact (ex_fail e).elim
end
end Go.Proofs.YtmjbedjnojcmfaaDoor.Ex

namespace Go.Proofs.YtmjbedjnojcmfaaDoor.Ex
set_option linter.unusedSectionVars false
section
variable [RT] {P : Program} {cx : Ctx} {cal : FuncId → List AV → Prog AV} {o : Oper} {a : Act} {w : World} {T : Tm} {tr : Bool} {ok : Nat → Prop} {hdr : Nat → Value} {S : Stb} {h h' : Hp} {f f' : Foot} {v : AV}

theorem exec_builtin {c : Call} {b : Builtin} (ho : o.op = .call c) (hb : c.callee = .builtin b) :
    (execOp a.eval o).run P w = (builtin b c.argTypes o.type (c.args.map fun | .const _ => true | _ => false) (c.args.map a.eval)).run P w := by
  simp only [execOp, ho, resolve, hb, Sem.run_bind, Sem.run_pure, Result.andThen_ok, invoke]
  rfl

theorem ERep.news {e : Ty} {cells : Array Value} {o0 : Nat} {l : List (D e)} (hr : ERep S e cells o0 l) :
    ∃ news : List Value, news.length = l.length * (eTy e).size ∧ (∀ k, k < news.length → cells[o0 + k]? = news[k]?) ∧ ERep S e news.toArray 0 l := by
  have hb : l.length * (eTy e).size = 0 ∨ o0 + l.length * (eTy e).size ≤ cells.size := by
    by_cases h0 : l.length = 0
    · exact .inl (by rw [h0, Nat.zero_mul])
    by_cases h1 : (eTy e).size = 0
    · exact .inl (by rw [h1, Nat.mul_zero])
    · obtain ⟨cs, k1, k2, _⟩ := hr (l.length - 1) (by omega)
      have k3 := k2 ((eTy e).size - 1) (by omega)
      rw [List.getElem?_eq_getElem (show (eTy e).size - 1 < cs.length by omega)] at k3
      have k4 := (Array.getElem?_eq_some_iff.1 k3).1
      have : l.length * (eTy e).size = (l.length - 1) * (eTy e).size + (eTy e).size := by
        rw [← Nat.succ_mul]; congr 1; omega
      exact .inr (by omega)
  refine ⟨(cells.toList.drop o0).take (l.length * (eTy e).size), ?_, fun k hk => ?_, fun i hi => ?_⟩
  · simp only [List.length_take, List.length_drop, Array.length_toList]; omega
  · simp only [List.length_take, List.length_drop, Array.length_toList] at hk
    rw [List.getElem?_take_of_lt (by omega), List.getElem?_drop, Array.getElem?_toList]
  · obtain ⟨cs, k1, k2, k3⟩ := hr i hi
    refine ⟨cs, k1, fun j hj => ?_, k3⟩
    have hb2 : i * (eTy e).size + (eTy e).size ≤ l.length * (eTy e).size := by rw [← Nat.succ_mul]; exact Nat.mul_le_mul_right _ (by omega)
    rw [List.getElem?_toArray, Nat.zero_add, List.getElem?_take_of_lt (by omega), List.getElem?_drop, Array.getElem?_toList, ← k2 j hj, Nat.add_assoc]

theorem ERep.ones {e : Ty} {l : List (D e)} {news : List Value} (hr : ERep S e news.toArray 0 l) (hl : news.length = l.length * (eTy e).size) : ∀ v ∈ news, oneV v = true := by
  intro v hv
  obtain ⟨k, hk, rfl⟩ := List.mem_iff_getElem.1 hv
  have hsz : 0 < (eTy e).size := by
    rcases Nat.eq_zero_or_pos (eTy e).size with h0 | h0
    · rw [h0] at hl; omega
    · exact h0
  have hi : k / (eTy e).size < l.length := Nat.div_lt_of_lt_mul (by rw [Nat.mul_comm]; omega)
  obtain ⟨cs, k1, k2, k3⟩ := hr _ hi
  have hm : k % (eTy e).size < (eTy e).size := Nat.mod_lt _ hsz
  have k4 := k2 _ hm
  have e1 : 0 + k / (eTy e).size * (eTy e).size + k % (eTy e).size = k := by rw [Nat.zero_add, Nat.mul_comm]; exact Nat.div_add_mod _ _
  rw [e1, List.getElem?_toArray, List.getElem?_eq_getElem hk] at k4
  exact k3.ones _ (List.mem_of_getElem? k4.symm)

theorem run_firstCells {b o0 len cap n sz : Nat} {cells : Array Value} {et : TypeId} {fr : Nat × Nat} (hw : w.heap[b]? = some (.cells cells et fr)) (news : List Value) (hl : news.length = n * sz) (hc : ∀ k, k < news.length → cells[o0 + k]? = news[k]?) :
    (Builtin.firstCells sz n (.slice (some ⟨b, o0, none⟩) len cap)).run P w = .ok news.toArray w := by
  simp only [Builtin.firstCells, ← hl]
  exact run_loadCells_in P hw o0 news hc

def Has (P : Program) (w : World) (S : Stb) (e : Ty) (xv : Value) (l : List (D e)) : Prop :=
  ∃ ao cap, xv = .slice ao l.length cap ∧ ∃ news : List Value, news.length = l.length * (eTy e).size ∧ ERep S e news.toArray 0 l ∧
    ∀ w1 : World, w1.heap = w.heap → (Builtin.firstCells (eTy e).size l.length xv).run P w1 = .ok news.toArray w1

theorem Has.empty (e : Ty) (ao : Option Addr) (cap : Nat) : Has P w S e (.slice ao 0 cap) [] := by
  refine ⟨ao, cap, rfl, [], by simp, fun i hi => absurd hi (by simp), fun w1 _ => ?_⟩
  cases ao <;> simp [Builtin.firstCells, loadCells, loadCellsFrom]

theorem Has.at {e : Ty} {l : List (D e)} {b o0 cap : Nat} {cells : Array Value} {et : TypeId} {fr : Nat × Nat} (hw : w.heap[b]? = some (.cells cells et fr)) (hr : ERep S e cells o0 l) :
    Has P w S e (.slice (some ⟨b, o0, none⟩) l.length cap) l := by
  obtain ⟨news, k1, k2, k3⟩ := hr.news
  exact ⟨_, cap, rfl, news, k1, k3, fun w1 h1 => run_firstCells (by rw [h1]; exact hw) news k1 k2⟩

theorem DRep.erep {e : Ty} {b o0 n cap : Nat} {l : List (D e)} (hd : DRep S (.sl e) [.slice (some ⟨b, o0, none⟩) n cap] l) : l = [] ∨ ∃ cells, S b = some cells ∧ ERep S e cells o0 l := by
  cases hd with
  | slNil => exact .inl rfl
  | sl _ _ _ _ _ cells cf hS hcap hs hc hr => exact .inr ⟨cells, hS, fun i hi => ⟨cf i, hs i hi, fun j hj => hc i j hi hj, hr i hi⟩⟩

theorem content_rep (hr : HReal hdr S h.blks w) {x : AV} {xv : Value} (hx : VRep hdr S x xv) {e : Ty} {k : List (D e) → Prog AV} {r : AV × Hp × Foot} (q : ex (content x e k) tr h f = some r) :
    ∃ l f1, ex (k l) tr h f1 = some r ∧ Has P w S e xv l := by
  unfold content at q
  split at q
  · cases hx
    exact ⟨[], f, q, Has.empty e _ 0⟩
  · rename_i e' l
    cases hx with | sl _ _ v hd =>
    obtain ⟨l2, h2, q⟩ := ex_opt q
    obtain ⟨rfl, rfl⟩ := castL_eq h2
    refine ⟨l, f, q, ?_⟩
    have hd' := hd
    cases hd with
    | slNil _ ao cap => exact Has.empty _ ao cap
    | sl _ b o0 cap _ cells cf hS hcap hs hc hrr =>
      obtain ⟨et, fr, hw⟩ := hr.mem b cells hS
      exact Has.at hw fun i hi => ⟨cf i, hs i hi, fun j hj => hc i j hi hj, hrr i hi⟩
  · rename_i id
    obtain ⟨b, hb, q⟩ := ex_get q
    split at q
    · rename_i e' l
      obtain ⟨l2, h2, q⟩ := ex_opt q
      obtain ⟨rfl, rfl⟩ := castL_eq h2
      refine ⟨l, _, q, ?_⟩
      have br := hr.blk id _ hb
      cases hx with | row _ ao len cap hh =>
      cases br with
      | rowNil _ a0 hh' => rw [hh] at hh'; cases hh'; exact Has.empty _ _ 0
      | row _ _ b' cap' vs et hh' hcap hw hl hs hre => rw [hh] at hh'; cases hh'; exact Has.at hw hre
    · exact (ex_fail q).elim
  · rename_i id sz lo hi
    obtain ⟨b, hb, q⟩ := ex_get q
    split at q
    · rename_i e' l
      rcases ex_cond q with ⟨hsz, q⟩ | ⟨_, q⟩
      case inr => exact (ex_fail q).elim
      have hsz := nb_iff.1 hsz
      obtain ⟨l2, h2, q⟩ := ex_opt q
      obtain ⟨rfl, rfl⟩ := castL_eq h2
      refine ⟨_, _, q, ?_⟩
      have br := hr.blk id _ hb
      cases hx with | sub _ _ _ _ ao cap hh hcc =>
      by_cases hlh : hi ≤ lo
      · have h0 : (l.take hi).drop lo = [] := List.length_eq_zero_iff.1 (by simp; omega)
        rw [h0, show hi - lo = 0 by omega]
        exact Has.empty _ _ _
      · obtain ⟨bb, len, cap', h1, h2, rfl⟩ := hh.resolve_left hlh
        cases br with
        | rowNil _ a0 hh' => rw [h1] at hh'; cases hh'; omega
        | row _ _ b' cap2 vs et hh' hcap hw hl hs hre =>
          rw [h1] at hh'
          cases hh'
          have hlen : ((l.take hi).drop lo).length = hi - lo := by rw [List.length_drop, List.length_take, Nat.min_eq_left h2]
          rw [← hlen]
          refine Has.at hw fun i hi' => ?_
          rw [hlen] at hi'
          obtain ⟨cs, k1, k2, k3⟩ := hre (lo + i) (by omega)
          refine ⟨cs, k1, fun j hj => ?_, ?_⟩
          · rw [← k2 j hj, hsz]
            congr 1
            rw [Nat.add_mul]; omega
          · simpa [List.getElem_drop, List.getElem_take] using k3
    · exact (ex_fail q).elim
  · exact (ex_fail q).elim

theorem sat_len (hcx : TabOk P cx.tab) (pre : Pre P tr ok hdr S h w T a) {c : Call} {t : TypeId} {x : Operand} (ho : o.op = .call c) (hb : c.callee = .builtin .len) (hat : c.argTypes = #[t]) (hx : c.args = #[x])
    {i : TInfo} (hi : tiL cx.tab t = some i) (e : ex (lenP i.ty (evO T x)) tr h f = some (v, h', f')) : Sat P o a w tr ok hdr S h h' v := by
  have hxr := evO_rep pre.tmps x
  generalize hxv : a.eval x = xv at hxr
  have hrun : ∀ n : Nat, (Builtin.len_ #[t] o.type #[xv]).run P w = .ok (goInt n) w → (execOp a.eval o).run P w = .ok (.value (.int .i64 n)) w := fun n hn => by
    rw [exec_builtin ho hb]
    simp [builtin, hat, hx, hxv, hn, goInt]
  have hsl : isSl i.ty = true → ∃ el, P.underlying t = some (.slice el) := fun k => by
    obtain ⟨e0, he0⟩ := isSl_eq k
    exact ⟨_, ((hcx t i hi).slice he0).1⟩
  have slr : isSl i.ty = true → ∀ ao n cap, xv = .slice ao n cap → (Builtin.len_ #[t] o.type #[xv]).run P w = .ok (goInt n) w := fun k ao n cap q => by
    obtain ⟨el, hu⟩ := hsl k
    simp [Builtin.len_, underlying, hu, q]
  unfold lenP at e
  split at e
  · rename_i hev
    rw [hev] at hxr
    rcases ex_cond e with ⟨k, e⟩ | ⟨_, e⟩
    case inr => exact (ex_fail e).elim
    cases ex_ret e
    cases hxr
    exact Sat.pure pre.real pre.ment (hrun 0 (slr k _ _ _ rfl)) (.int _ _) (fun q hq => by cases hq)
  · rename_i e0 l hev
    rw [hev] at hxr
    rcases ex_cond e with ⟨k, e⟩ | ⟨_, e⟩
    case inr => exact (ex_fail e).elim
    cases ex_ret e
    cases hxr with | sl _ _ v hd =>
    have : ∃ ao cap, xv = .slice ao l.length cap := by
      cases hd with
      | slNil _ ao cap => exact ⟨ao, cap, rfl⟩
      | sl _ b o0 cap => exact ⟨_, cap, rfl⟩
    obtain ⟨ao, cap, hq⟩ := this
    exact Sat.pure pre.real pre.ment (hrun _ (slr k _ _ _ hq)) (.int _ _) (fun q hq => by cases hq)
  · rename_i id hev
    rw [hev] at hxr
    rcases ex_cond e with ⟨k, e⟩ | ⟨_, e⟩
    case inr => exact (ex_fail e).elim
    obtain ⟨b, hb', e⟩ := ex_get e
    split at e
    · rename_i e0 l
      cases ex_ret e
      have br := pre.real.blk id _ hb'
      cases hxr with | row _ ao len cap hh =>
      have : len = l.length := by
        cases br with
        | rowNil _ a0 hh' => rw [hh] at hh'; cases hh'; rfl
        | row _ _ b' cap' vs et hh' => rw [hh] at hh'; cases hh'; rfl
      subst this
      exact Sat.pure pre.real pre.ment (hrun _ (slr k _ _ _ rfl)) (.int _ _) (fun q hq => by cases hq)
    · exact (ex_fail e).elim
  · rename_i e0 id sz n hev
    rw [hev] at hxr
    rcases ex_cond e with ⟨k, e⟩ | ⟨_, e⟩
    case inr => exact (ex_fail e).elim
    cases ex_ret e
    cases hxr with | vsl _ _ _ _ b cap hh hcc =>
    exact Sat.pure pre.real pre.ment (hrun _ (slr k _ _ _ rfl)) (.int _ _) (fun q hq => by cases hq)
  · rename_i s hev
    rw [hev] at hxr
    rcases ex_cond e with ⟨k, e⟩ | ⟨_, e⟩
    case inr => exact (ex_fail e).elim
    cases ex_ret e
    cases hxr
    have hu : P.underlying t = some .string := by
      have u := (hcx t i hi).und
      unfold UndOk at u
      cases hty : i.ty <;> rw [hty] at k u <;> first | exact u | cases k
    exact Sat.pure pre.real pre.ment (hrun _ (by simp [Builtin.len_, underlying, hu])) (.int _ _) (fun q hq => by cases hq)
  · exact (ex_fail e).elim

theorem foldI_run (g : Int → Int → Int) (g2 : Value → Value → Sem Value) (hg : ∀ (k k' : IntKind) (x y : Int) (w : World), (g2 (.int k x) (.int k' y)).run P w = .ok (.int k (g x y)) w) : ∀ (aZs : List AV) (vs : List Value) (k : IntKind) (n : Int) (u : AV), VReps hdr S aZs vs → foldI g k n aZs = some u →
    u.ids = [] ∧ ∃ z, (vs.foldlM g2 (.int k n)).run P w = .ok z w ∧ VRep hdr S u z
  | _, _, k, n, u, .nil, e => by simp only [foldI, Option.some.injEq] at e; subst e; exact ⟨rfl, _, rfl, .int _ _⟩
  | _, _, k, n, u, .cons x v aZs vs hx h', e => by
    cases hx with
    | int k' m =>
      have e : (if k = k' then foldI g k (g n m) aZs else none) = some u := e
      by_cases hk : k = k'
      · rw [if_pos hk] at e
        obtain ⟨h1, z, h2, h3⟩ := foldI_run g g2 hg aZs vs k (g n m) u h' e
        exact ⟨h1, z, by simp only [List.foldlM_cons, Sem.run_bind, hg, Result.andThen_ok, h2], h3⟩
      · rw [if_neg hk] at e; cases e
    | _ => cases e

theorem sat_max (pre : Pre P tr ok hdr S h w T a) {c : Call} (ho : o.op = .call c) (hb : c.callee = .builtin .max) {k : IntKind} {n : Int} {r : List AV} (hargs : evL T c.args.toList = .int k n :: r)
    (e : ex (.opt (foldI (fun x y => if y > x then y else x) k n r) .ret) tr h f = some (v, h', f')) : Sat P o a w tr ok hdr S h h' v := by
  obtain ⟨u, hu, e⟩ := ex_opt e
  cases ex_ret e
  have hl := evL_rep pre.tmps c.args.toList
  rw [hargs] at hl
  generalize hvs : c.args.toList.map a.eval = vs at hl
  cases hl with | cons _ x _ us hx hl =>
  cases hx
  obtain ⟨h1, z, h2, h3⟩ := foldI_run (P := P) (w := w) _ Builtin.max2 (fun k k' x y w => rfl) r us k n _ hl hu
  refine Sat.pure pre.real pre.ment ?_ h3 (fun q hq => by rw [h1] at hq; cases hq)
  rw [exec_builtin ho hb]
  simp only [builtin, Builtin.max_, Array.toList_map, hvs, Sem.run_bind, h2, Result.andThen_ok, Sem.run_pure]

theorem sat_min (pre : Pre P tr ok hdr S h w T a) {c : Call} (ho : o.op = .call c) (hb : c.callee = .builtin .min) {k : IntKind} {n : Int} {r : List AV} (hargs : evL T c.args.toList = .int k n :: r)
    (e : ex (.opt (foldI (fun x y => if y < x then y else x) k n r) .ret) tr h f = some (v, h', f')) : Sat P o a w tr ok hdr S h h' v := by
  obtain ⟨u, hu, e⟩ := ex_opt e
  cases ex_ret e
  have hl := evL_rep pre.tmps c.args.toList
  rw [hargs] at hl
  generalize hvs : c.args.toList.map a.eval = vs at hl
  cases hl with | cons _ x _ us hx hl =>
  cases hx
  obtain ⟨h1, z, h2, h3⟩ := foldI_run (P := P) (w := w) _ Builtin.min2 (fun k k' x y w => rfl) r us k n _ hl hu
  refine Sat.pure pre.real pre.ment ?_ h3 (fun q hq => by rw [h1] at hq; cases hq)
  rw [exec_builtin ho hb]
  simp only [builtin, Builtin.min_, Array.toList_map, hvs, Sem.run_bind, h2, Result.andThen_ok, Sem.run_pure]

def stAt (ao : Option Addr) (n : Nat) (news : List Value) : Sem Unit :=
  match ao with
  | some a => storeCells (a.add n) news
  | none => pure ()

theorem run_append {t el : TypeId} {ty : TypeId} {inf : TypeInfo} {z : Value} (hu : P.underlying t = some (.slice el)) (hi : P.info? el = some inf) (hz : inf.zero = some z)
    {n0 cap0 n cap1 : Nat} {ao bo : Option Addr} {olds news : List Value}
    (h0 : (Builtin.firstCells inf.size n0 (.slice ao n0 cap0)).run P w.drew = .ok olds.toArray w.drew) (h1 : (Builtin.firstCells inf.size n (.slice bo n cap1)).run P w.drew = .ok news.toArray w.drew)
    (h2 : (Builtin.firstCells inf.size n (.slice bo n cap1)).run P w = .ok news.toArray w) (hb : inf.bytes ≠ 0) (hlim : (n0 + n + 1) * inf.bytes ≤ lim) :
    (n0 + n ≤ cap0 → (Builtin.append_ #[t, t] ty #[.slice ao n0 cap0, .slice bo n cap1]).run P w =
      ((stAt ao (n0 * inf.size) news).run P w).andThen fun _ w' => .ok (.slice ao (n0 + n) cap0) w') ∧
    (cap0 < n0 + n → (Builtin.append_ #[t, t] ty #[.slice ao n0 cap0, .slice bo n cap1]).run P w =
      .ok (.slice (some ⟨w.heap.size, 0, none⟩) (n0 + n) (grownCap w (n0 + n) cap0 el)) (w.drew.alloc (.cells (olds.toArray ++ news.toArray ++ Builtin.zeroCells z.cells (grownCap w (n0 + n) cap0 el - (n0 + n))) el))) := by
  constructor
  · intro hroom
    cases ao with
    | none => simp [Builtin.append_, run_underlying hu, sizeOf, typeInfo, hi, Builtin.lenOf, hroom, h2, stAt]
    | some a => simp [Builtin.append_, run_underlying hu, sizeOf, typeInfo, hi, Builtin.lenOf, hroom, h2, stAt]
  · intro hg
    have hlim' : (n0 + n) * inf.bytes ≤ 140737488355328 := by unfold lim at hlim; rw [Nat.add_mul] at hlim; omega
    have hfit := growslice_fits hg hlim'
    have hn : ¬ (n0 + n ≤ cap0) := by omega
    have hsm : n0 + n ≤ 140737488355328 := by
      refine Nat.le_trans ?_ hlim'
      exact Nat.le_mul_of_pos_right _ (by omega)
    have h63' : ¬ (9223372036854775807 < ((n0 : Int) + (n : Int))) := by omega
    have h48' : ¬ (281474976710656 < Builtin.nextslicecap (n0 + n) cap0 * inf.bytes) := by omega
    simp [Builtin.append_, run_underlying hu, sizeOf, typeInfo, zeroValue, hi, hz, Builtin.lenOf, hn, h63', h48', Question.forced, h0, h1, newRow, grownCap]
    congr 2
    apply Array.ext'
    simp [List.append_assoc]
theorem erep_u8 {l : List Int} {news : List Value} (hl : news.length = l.length) (hr : ERep S (.int .u8) news.toArray 0 l) : news = l.map (Value.int .u8) := by
  refine List.ext_getElem? fun i => ?_
  by_cases hi : i < l.length
  · obtain ⟨cs, k1, k2, k3⟩ := hr i hi
    have k4 : news.toArray[0 + i * 1 + 0]? = cs[0]? := k2 0 Nat.one_pos
    rw [List.getElem?_toArray, show 0 + i * 1 + 0 = i by omega] at k4
    rw [k4, List.getElem?_map, List.getElem?_eq_getElem hi]
    have k5 : DRep S (.int .u8) cs (l[i]'hi) := k3
    cases k5
    rfl
  · rw [List.getElem?_eq_none (by omega), List.getElem?_eq_none (by rw [List.length_map]; omega)]
theorem sat_convert (hcx : TabOk P cx.tab) (pre : Pre P tr ok hdr S h w T a) {s d : TypeId} {x : Operand} (ho : o.op = .convert s d x)
    (e : ex (opP cx cal T o) tr h f = some (v, h', f')) : Sat P o a w tr ok hdr S h h' v := by
  simp only [opP, ho] at e
  obtain ⟨i, hi, e⟩ := ex_opt e
  obtain ⟨j, hj, e⟩ := ex_opt e
  have hx := evO_rep pre.tmps x
  generalize hxv : a.eval x = xv at hx
  have us : ∃ q, P.underlying s = some q := by
    have u := (hcx s i hi).und
    unfold UndOk at u
    split at u
    · exact ⟨_, u⟩
    · exact ⟨_, u⟩
    · exact ⟨_, u⟩
    · exact ⟨_, u.1⟩
    · obtain ⟨fs, u, _⟩ := u; exact ⟨_, u⟩
    · obtain ⟨ps, rs, vv, u⟩ := u; exact ⟨_, u⟩
    · exact u.elim
  obtain ⟨q, us⟩ := us
  have ud := (hcx d j hj).und
  unfold UndOk at ud
  split at e
  · rename_i k k' n hty hev
    cases ex_ret e
    rw [hev] at hx
    rw [hty] at ud
    cases hx
    exact Sat.pure pre.real pre.ment (by simp [execOp, ho, hxv, convert, underlying, us, ud, Conv.intToInt]) (.int _ _) (fun n hn => by cases hn)
  · rename_i s' hty hev
    cases ex_ret e
    rw [hev] at hx
    rw [hty] at ud
    cases hx
    exact Sat.pure pre.real pre.ment (by simp [execOp, ho, hxv, convert, underlying, us, ud]) (.str _) (fun n hn => by cases hn)
  · rename_i y hty hev
    rcases ex_cond e with ⟨hby, e⟩ | ⟨_, e⟩
    case inr => exact (ex_fail e).elim
    have hs := (hcx s i hi).und
    have hit : i.ty = .sl (.int .u8) := by
      unfold isBy at hby
      split at hby
      · assumption
      · cases hby
    unfold UndOk at hs
    rw [hit] at hs
    obtain ⟨hs, ie, hie, hiet⟩ := hs
    have he := (hcx i.elem ie hie).und
    unfold UndOk at he
    rw [hiet] at he
    rw [hty] at ud
    obtain ⟨l, f1, q, ao, cap, hxv2, news, hn, hre, hfc⟩ := content_rep pre.real hx e
    have q := ex_ret q
    have q1 : v = AV.str (bytesOf l) := congrArg (fun r => r.1) q
    have q2 : h' = h := congrArg (fun r => r.2.1) q
    rw [q1, q2]
    have hnews := erep_u8 (by rw [hn]; exact Nat.mul_one _) hre
    have hr : (Conv.bytesToString xv).run P w = .ok (.string (bytesOf l)) w := by
      rw [hxv2]
      cases ao with
      | none =>
        have hl0 : l = [] := by
          have := hfc w rfl
          rw [hxv2] at this
          cases l with
          | nil => rfl
          | cons d r => rw [hnews] at this; simp [Builtin.firstCells, Sem.run_pure] at this; exact (List.cons_ne_nil _ _ this).elim
        rw [hl0]
        rfl
      | some ad =>
        have := hfc w rfl
        rw [hxv2, hnews] at this
        refine run_bytesToString w ad l.length cap l ?_
        rw [← this]
        simp only [Builtin.firstCells]
        rw [show l.length * (eTy (.int .u8)).size = l.length from Nat.mul_one _]
    have hr2 : (convert s d xv).run P w = .ok (.string (bytesOf l)) w := by
      rw [hxv2] at hr ⊢
      rw [run_convert_bytes_string w s d i.elem ao l.length cap hs he ud]
      exact hr
    exact Sat.pure pre.real pre.ment (by simp [execOp, ho, hxv, hr2]) (.str _) (fun n hn => by cases hn)
  · exact (ex_fail e).elim
end
end Go.Proofs.YtmjbedjnojcmfaaDoor.Ex

namespace Go.Proofs.YtmjbedjnojcmfaaDoor.Ex
set_option linter.unusedSectionVars false
set_option linter.unusedVariables false
section
variable [RT] {P : Program} {cx : Ctx} {cal : FuncId → List AV → Prog AV} {o : Oper} {a : Act} {w : World} {T : Tm} {tr : Bool} {ok : Nat → Prop} {hdr : Nat → Value} {S : Stb} {h h' : Hp} {f f' : Foot} {v : AV}

theorem ERep.append {e : Ty} {l1 l2 : List (D e)} {c1 c2 : List Value} (h1 : ERep S e c1.toArray 0 l1) (n1 : c1.length = l1.length * (eTy e).size) (h2 : ERep S e c2.toArray 0 l2) (n2 : c2.length = l2.length * (eTy e).size) (r : List Value) :
    ERep S e (c1 ++ c2 ++ r).toArray 0 (l1 ++ l2) := by
  intro i hi
  by_cases c : i < l1.length
  · obtain ⟨cs, k1, k2, k3⟩ := h1 i c
    refine ⟨cs, k1, fun j hj => ?_, by rw [List.getElem_append_left c]; exact k3⟩
    have hb : i * (eTy e).size + (eTy e).size ≤ l1.length * (eTy e).size := by rw [← Nat.succ_mul]; exact Nat.mul_le_mul_right _ (by omega)
    have := k2 j hj
    rw [List.getElem?_toArray] at this ⊢
    rw [← this, List.append_assoc, List.getElem?_append_left (by omega)]
  · have hi' : i - l1.length < l2.length := by rw [List.length_append] at hi; omega
    obtain ⟨cs, k1, k2, k3⟩ := h2 (i - l1.length) hi'
    refine ⟨cs, k1, fun j hj => ?_, by rw [List.getElem_append_right (by omega)]; exact k3⟩
    have hb : (i - l1.length) * (eTy e).size + (eTy e).size ≤ l2.length * (eTy e).size := by rw [← Nat.succ_mul]; exact Nat.mul_le_mul_right _ (by omega)
    have hb2 : i * (eTy e).size = l1.length * (eTy e).size + (i - l1.length) * (eTy e).size := by rw [← Nat.add_mul]; congr 1; omega
    have := k2 j hj
    rw [List.getElem?_toArray] at this ⊢
    rw [← this, List.getElem?_append_left (by simp; omega), List.getElem?_append_right (by omega)]
    congr 1; omega

theorem ERep.take {S : Stb} {e : Ty} {l : List (D e)} {c : List Value} (h : ERep S e c.toArray 0 l) (n : c.length = l.length * (eTy e).size) (i : Nat) (hi : i ≤ l.length) :
    ERep S e (c.take (i * (eTy e).size)).toArray 0 (l.take i) := by
  intro q hq
  rw [List.length_take] at hq
  obtain ⟨cs, k1, k2, k3⟩ := h q (by omega)
  refine ⟨cs, k1, fun j hj => ?_, by rw [List.getElem_take]; exact k3⟩
  have hb : q * (eTy e).size + (eTy e).size ≤ i * (eTy e).size := by rw [← Nat.succ_mul]; exact Nat.mul_le_mul_right _ (by omega)
  have := k2 j hj
  rw [List.getElem?_toArray] at this ⊢
  rw [← this, List.getElem?_take_of_lt (by omega)]

theorem ERep.drop {S : Stb} {e : Ty} {l : List (D e)} {c : List Value} (h : ERep S e c.toArray 0 l) (n : c.length = l.length * (eTy e).size) (i : Nat) (hi : i ≤ l.length) :
    ERep S e (c.drop (i * (eTy e).size)).toArray 0 (l.drop i) := by
  intro q hq
  rw [List.length_drop] at hq
  obtain ⟨cs, k1, k2, k3⟩ := h (i + q) (by omega)
  refine ⟨cs, k1, fun j hj => ?_, by rw [List.getElem_drop]; exact k3⟩
  have := k2 j hj
  rw [List.getElem?_toArray] at this ⊢
  rw [← this, List.getElem?_drop]
  congr 1
  rw [Nat.add_mul]; omega
theorem post_grown (hr : HReal hdr S h.blks w) (hm : Ment ok h.blks) (hO : ∀ id, ok id → Out tr h.c (h.c + 1) id) {e : Ty} {l : List (D e)} {cs : List Value} {el : TypeId} {cap : Nat} (h0 : 0 < l.length) (hcap : l.length ≤ cap)
    (hl : cs.length = cap * (eTy e).size) (he : ERep S e cs.toArray 0 l) :
    Post tr ok hdr S h w (hdrN hdr h.c (.slice (some ⟨w.heap.size, 0, none⟩) l.length cap)) S ⟨(h.c, .row e l) :: h.blks, h.c + 1⟩ (w.drew.alloc (.cells cs.toArray el)) := by
  refine post_new' hr hm hO (.row e l) (fun n hn => by cases hn) (w.drew.alloc (.cells cs.toArray el)) rfl rfl rfl (by simp) (fun n hn => heap_alloc_lt w.drew _ n hn) _ ?_ (fun hdr' _ g2 => ?_)
  · cases cap with
    | zero => omega
    | succ c => exact .inr rfl
  · exact .row e l w.heap.size cap cs.toArray el g2 (by omega) (heap_alloc_new w.drew _) hcap (by simpa using hl) he

theorem sat_append (hcx : TabOk P cx.tab) (pre : Pre P tr ok hdr S h w T a) (hO : ∀ id, ok id → Out tr h.c h'.c id) {c : Call} {t : TypeId} {s x : Operand} (ho : o.op = .call c) (hb : c.callee = .builtin .append) (hat : c.argTypes = #[t, t]) (hargs : c.args = #[s, x])
    {i ie : TInfo} (hi : tiL cx.tab t = some i) (hie : tiL cx.tab i.elem = some ie) {e0 : Ty} (he0 : slTy i.ty = some e0) (hby : Nat.beq ie.bytes 0 = false)
    (e : ex (content (evO T x) e0 fun l' => appendP ie e0 (evO T s) l') tr h f = some (v, h', f')) : Sat P o a w tr ok hdr S h h' v := by
  have hsl := slTy_eq he0
  obtain ⟨hu, ie', hie', hety⟩ := (hcx t i hi).slice hsl
  rw [hie] at hie'
  cases hie'
  obtain ⟨inf, z, q1, q2, q3, q4, q5⟩ := (hcx _ ie hie).info
  have hzs : z.cells.size = (eTy e0).size := by rw [← hety, ← zvals_len, ← q5]; simp
  have hb0 : inf.bytes ≠ 0 := fun k => by rw [q3] at k; rw [k] at hby; cases hby
  rw [hety] at q2
  have hxr := evO_rep pre.tmps x
  have hsr := evO_rep pre.tmps s
  generalize hxv : a.eval x = xv at hxr
  generalize hsv : a.eval s = sv at hsr
  obtain ⟨l', f1, e, hhas⟩ := content_rep pre.real hxr e
  obtain ⟨bo, cap1, rfl, news, n1, n2, n3⟩ := hhas
  have hexec : ∀ r, (Builtin.append_ #[t, t] o.type #[sv, .slice bo l'.length cap1]).run P w = r → (execOp a.eval o).run P w = r.andThen fun z w' => .ok (.value z) w' := fun r hr => by
    rw [exec_builtin ho hb]
    simp only [builtin, hat, hargs, Sem.run_bind, List.map_toArray, List.map_cons, List.map_nil, hsv, hxv, hr]
    rfl
  have fc : ∀ w1 : World, w1.heap = w.heap → (Builtin.firstCells inf.size l'.length (.slice bo l'.length cap1)).run P w1 = .ok news.toArray w1 := fun w1 hw1 => by rw [q2]; exact n3 w1 hw1
  have lim2 : ∀ n0, (n0 + l'.length + 1) * ie.bytes ≤ lim → (n0 + l'.length + 1) * inf.bytes ≤ lim := fun n0 k => by rw [q3]; exact k
  -- onto nothing
  have onNil : ∀ (h1 : Hp) (a0 : Option Addr), sv = .slice a0 0 0 → HReal hdr S h1.blks w → Ment ok h1.blks → h1.c = h.c → (0 + l'.length + 1) * ie.bytes ≤ lim → v = .row h1.c → h' = ⟨(h1.c, .row e0 l') :: h1.blks, h1.c + 1⟩ →
      Post tr ok hdr S h w hdr S h1 w → Sat P o a w tr ok hdr S h h' v := by
    intro h1 a0 hsv0 hr1 hm1 hc1 hlim hv hh p1
    subst hv hh hsv0
    have hO1 : ∀ id, ok id → Out tr h1.c (h1.c + 1) id := fun id hid => by have := hO id hid; rw [← hc1] at this; exact this
    have hfo : (Builtin.firstCells inf.size 0 (.slice a0 0 0)).run P w.drew = .ok ([] : List Value).toArray w.drew := by
      cases a0 <;> simp [Builtin.firstCells, loadCells, loadCellsFrom]
    obtain ⟨r1, r2⟩ := run_append (ty := o.type) hu q1 q4 hfo (fc w.drew rfl) (fc w rfl) hb0 (lim2 0 hlim)
    rw [Nat.zero_add] at r1 r2
    by_cases hz : l'.length = 0
    · have hl' : l' = [] := List.length_eq_zero_iff.1 hz
      subst hl'
      have hnews : news = [] := List.length_eq_zero_iff.1 (by simpa using n1)
      subst hnews
      have hrun := hexec _ (r1 (by simp))
      have hrun2 : (execOp a.eval o).run P w = .ok (.value (.slice a0 0 0)) w := by
        rw [hrun]
        cases a0 <;> simp [storeCells, stAt]
      refine Sat.value hrun2 (p1.trans ((post_new' hr1 hm1 hO1 (.row e0 []) (fun n hn => by cases hn) w rfl rfl rfl (Nat.le_refl _) (fun _ _ => rfl) (.slice a0 0 0) (.inl (by cases a0 <;> rfl)) (fun hdr' _ g2 => .rowNil e0 a0 g2)).weaken fun _ k => .inl k)) (.row _ _ _ _ (hdrN_same _ _ _)) (fun m hm => ?_)
      simp [AV.ids] at hm; subst hm; exact .inr ⟨by omega, by simp⟩
    · have hge := grownCap_ge w l'.length 0 i.elem
      have hrun := hexec _ (r2 (by omega))
      have hp := post_grown (tr := tr) (el := i.elem) (cap := grownCap w l'.length 0 i.elem) (cs := [] ++ news ++ (Builtin.zeroCells z.cells (grownCap w l'.length 0 i.elem - l'.length)).toList) hr1 hm1 hO1 (l := l') (by omega) hge
        (by
          have hzc := size_zeroCells z.cells (grownCap w l'.length 0 i.elem - l'.length)
          simp only [List.nil_append, List.length_append, n1, Array.length_toList, hzc, hzs, ← Nat.add_mul]
          congr 1; omega)
        (ERep.append (S := S) (l1 := ([] : List (D e0))) (c1 := []) (fun i hi => absurd hi (by simp)) (by simp) n2 n1 _)
      have hw : ([].toArray ++ news.toArray ++ Builtin.zeroCells z.cells (grownCap w l'.length 0 i.elem - l'.length)) = ([] ++ news ++ (Builtin.zeroCells z.cells (grownCap w l'.length 0 i.elem - l'.length)).toList).toArray := by simp
      rw [hw] at hrun
      refine Sat.value hrun (p1.trans (hp.weaken fun _ k => .inl k)) (.row _ _ _ _ (hdrN_same _ _ _)) (fun m hm => ?_)
      simp [AV.ids] at hm; subst hm; exact .inr ⟨by omega, by simp⟩
  unfold appendP at e
  split at e
  · rename_i hev
    rw [hev] at hsr
    rcases ex_ite e with ⟨hc, e⟩ | ⟨_, e⟩
    case inr => exact (ex_fail e).elim
    have e := ex_new e
    cases ex_ret e
    cases hsr
    exact onNil h _ rfl pre.real pre.ment rfl (of_decide_eq_true hc) rfl rfl (Post.refl pre.real pre.ment)
  · rename_i id hev
    rw [hev] at hsr
    obtain ⟨b, hb', e⟩ := ex_get e
    split at e
    · rename_i e1 l1
      obtain ⟨l2, h2, e⟩ := ex_opt e
      obtain ⟨he, hl⟩ := castL_eq h2
      subst he
      simp only at hl
      subst hl
      rcases ex_ite e with ⟨hc, e⟩ | ⟨_, e⟩
      case inr => exact (ex_fail e).elim
      have hlim := of_decide_eq_true hc
      obtain ⟨_, e⟩ := ex_del e
      have e := ex_new e
      cases ex_ret e
      have br := pre.real.blk id _ hb'
      cases hsr with | row _ ao len cap hh =>
      have pdel := post_del (tr := tr) pre.real pre.ment id _ hb' S (fun _ _ k => k) (fun _ _ k => .inl k)
      have mdel : Ment ok (delB h.blks id) := pdel.ment.mono fun n k => okn_self k
      cases br with
      | rowNil _ a0 hh' =>
        rw [hh] at hh'
        cases hh'
        exact onNil ⟨delB h.blks id, h.c⟩ _ rfl pdel.real mdel rfl (by simpa using hlim) rfl (by simp) pdel
      | row _ _ b' cap' vs et hh' hcap hw hl hs hre =>
        rw [hh] at hh'
        cases hh'
        obtain ⟨olds, o1, o2, o3⟩ := hre.news
        have hfo : (Builtin.firstCells inf.size l1.length (.slice (some ⟨b', 0, none⟩) l1.length cap)).run P w.drew = .ok olds.toArray w.drew := by
          rw [q2]; exact run_firstCells (w := w.drew) hw olds o1 o2
        obtain ⟨r1, r2⟩ := run_append (ty := o.type) hu q1 q4 hfo (fc w.drew rfl) (fc w rfl) hb0 (lim2 _ hlim)
        have hblk : blkOf (hdr id) = some b' := by
          rw [hh]
          cases cap with
          | zero => omega
          | succ n => rfl
        by_cases hroom : l1.length + l'.length ≤ cap
        · have hrun := hexec _ (r1 hroom)
          have hmul : (l1.length + l'.length) * (eTy e1).size ≤ cap * (eTy e1).size := Nat.mul_le_mul_right _ hroom
          rw [Nat.add_mul] at hmul
          obtain ⟨w', g1, a1, a2, a3, a4, a5, a6⟩ := run_storeCells_in P b' et news w vs.toList (l1.length * (eTy e1).size) 0 (by simpa using hw) (by simp; omega) (n2.ones n1)
          simp only [Nat.add_zero] at a6
          have hrun2 : (execOp a.eval o).run P w = .ok (.value (.slice (some ⟨b', 0, none⟩) (l1.length + l'.length) cap)) w' := by
            rw [hrun, q2]
            simp only [stAt, add_mk, Nat.zero_add, g1, Result.andThen_ok]
          refine Sat.value hrun2 (post_rehead pre.real pre.ment hO id (.row e1 (l1 ++ l')) _ hb' (fun n hn => by cases hn) w' b' (.slice (some ⟨b', 0, none⟩) (l1.length + l'.length) cap) hblk ?_ a1 a2 a3 a4 a5 (fun hdr' _ g2 => ?_)) (.row _ _ _ _ (hdrN_same _ _ _)) (fun m hm => ?_)
          · cases cap with
            | zero => omega
            | succ n => rfl
          · refine .row e1 _ b' cap _ et (by rw [List.length_append]; exact g2) hcap a6 (by rw [List.length_append]; exact hroom) ?_ ?_
            · simp only [List.size_toArray, List.length_append, List.length_take, List.length_drop, Array.length_toList]; omega
            · have ho : vs.toList.take (l1.length * (eTy e1).size) = olds := by
                refine List.ext_getElem? fun k => ?_
                by_cases hk : k < l1.length * (eTy e1).size
                · rw [List.getElem?_take_of_lt hk, Array.getElem?_toList]
                  have := o2 k (by omega)
                  rwa [Nat.zero_add] at this
                · rw [List.getElem?_eq_none (by simp; omega), List.getElem?_eq_none (by omega)]
              rw [ho]
              exact ERep.append o3 o1 n2 n1 _
          · simp [AV.ids] at hm; subst hm; exact .inr ⟨Nat.le_refl _, Nat.lt_succ_self _⟩
        · have hrun := hexec _ (r2 (by omega))
          have hge := grownCap_ge w (l1.length + l'.length) cap i.elem
          have hp := post_grown (tr := tr) (el := i.elem) (cap := grownCap w (l1.length + l'.length) cap i.elem) (cs := olds ++ news ++ (Builtin.zeroCells z.cells (grownCap w (l1.length + l'.length) cap i.elem - (l1.length + l'.length))).toList) pdel.real mdel hO (l := l1 ++ l') (by simp; omega) (by simpa using hge)
            (by
              have hzc := size_zeroCells z.cells (grownCap w (l1.length + l'.length) cap i.elem - (l1.length + l'.length))
              simp only [List.length_append, o1, n1, Array.length_toList, hzc, hzs, ← Nat.add_mul]
              congr 1; omega)
            (ERep.append o3 o1 n2 n1 _)
          have hw2 : (olds.toArray ++ news.toArray ++ Builtin.zeroCells z.cells (grownCap w (l1.length + l'.length) cap i.elem - (l1.length + l'.length))) = (olds ++ news ++ (Builtin.zeroCells z.cells (grownCap w (l1.length + l'.length) cap i.elem - (l1.length + l'.length))).toList).toArray := by simp
          rw [hw2] at hrun
          rw [show (l1 ++ l').length = l1.length + l'.length from List.length_append] at hp
          refine Sat.value hrun (pdel.trans (hp.weaken fun _ k => .inl k)) (.row _ _ _ _ (hdrN_same _ _ _)) (fun m hm => ?_)
          simp [AV.ids] at hm; subst hm; exact .inr ⟨Nat.le_refl _, Nat.lt_succ_self _⟩
    · exact (ex_fail e).elim
  · exact (ex_fail e).elim
theorem zero_rep {e : Ty} {z : D e} (hz : zeroD e = some z) {zc : Array Value} (hc : zc.toList = zvals (eTy e)) (S : Stb) (n : Nat) : ERep S e (Builtin.zeroCells zc n).toList.toArray 0 (List.replicate n z) := by
  have hsz : zc.size = (eTy e).size := by rw [← zvals_len, ← hc]; simp
  intro q hq
  rw [List.length_replicate] at hq
  refine ⟨zvals (eTy e), zvals_len _, fun m hm => ?_, ?_⟩
  · have hb : q * (eTy e).size + (eTy e).size ≤ n * (eTy e).size := by rw [← Nat.succ_mul]; exact Nat.mul_le_mul_right _ (by omega)
    have hlt : 0 + q * (eTy e).size + m < n * zc.size := by rw [hsz]; omega
    have hmod : (0 + q * (eTy e).size + m) % zc.size = m := by rw [hsz, Nat.zero_add, Nat.mul_comm, Nat.mul_add_mod, Nat.mod_eq_of_lt hm]
    simp only [Builtin.zeroCells, Array.toArray_toList, Array.getElem?_map, Array.getElem?_range, hlt, if_true, Option.map_some, hmod]
    rw [← hc, Array.getElem?_toList, Array.getElem?_eq_getElem (by omega), getElem!_pos zc m (by omega)]
  · rw [List.getElem_replicate]; exact zeroD_rep hz S
theorem sat_clear (hcx : TabOk P cx.tab) (pre : Pre P tr ok hdr S h w T a) {c : Call} {t : TypeId} {x : Operand} (ho : o.op = .call c) (hb : c.callee = .builtin .clear) (hat : c.argTypes = #[t]) (hx : c.args = #[x])
    {i : TInfo} (hi : tiL cx.tab t = some i) {e0 : Ty} (he0 : slTy i.ty = some e0) {id sz lo hi' : Nat} (hev : evO T x = .sub id sz lo hi')
    (e : ex (clearP e0 id sz lo hi') tr h f = some (v, h', f')) : Sat P o a w tr ok hdr S h h' v := by
  have hsl := slTy_eq he0
  obtain ⟨hu, ie, hie, hety⟩ := (hcx t i hi).slice hsl
  have hxr := evO_rep pre.tmps x
  generalize hxv : a.eval x = xv at hxr
  rw [hev] at hxr
  cases hxr with | sub _ _ _ _ ao cap hh hcc =>
  unfold clearP at e
  have hexec : ∀ r, (Builtin.clear_ #[t] o.type #[.slice ao (hi' - lo) cap]).run P w = r → (execOp a.eval o).run P w = r.andThen fun z w' => .ok (.value z) w' := fun r hr => by
    rw [exec_builtin ho hb]
    simp only [builtin, hat, hx, Sem.run_bind, List.map_toArray, List.map_cons, List.map_nil, hxv, hr]
    rfl
  rcases ex_ite e with ⟨hc, e⟩ | ⟨hc, e⟩
  · cases ex_ret e
    have hz : hi' - lo = 0 := by have := of_decide_eq_true hc; omega
    have hrun : (Builtin.clear_ #[t] o.type #[.slice ao (hi' - lo) cap]).run P w = .ok (.tuple #[]) w := by
      rw [hz]
      cases ao <;> simp [Builtin.clear_, run_underlying hu]
    exact Sat.pure pre.real pre.ment (hexec _ hrun) (.tup _ _ .nil) fun m hm => by simp [AV.ids, AV.idsL] at hm
  have hlt : lo < hi' := by have := of_decide_eq_false hc; omega
  obtain ⟨b, hb', e⟩ := ex_get e
  split at e
  case h_2 => exact (ex_fail e).elim
  rename_i e1 l1
  obtain ⟨l2, h2, e⟩ := ex_opt e
  obtain ⟨he, hl⟩ := castL_eq h2
  subst he
  simp only at hl
  subst hl
  rcases ex_cond e with ⟨hk, e3⟩ | ⟨_, e3⟩
  case inr => exact (ex_fail e3).elim
  obtain ⟨z, hz, e4⟩ := ex_opt e3
  have hk := nb_iff.1 hk
  subst hk
  rcases ex_ite e4 with ⟨hc2, e5⟩ | ⟨_, e5⟩
  case inr => exact (ex_fail e5).elim
  have hle := of_decide_eq_true hc2
  obtain ⟨_, e6⟩ := ex_put e5
  cases ex_ret e6
  have br := pre.real.blk id _ hb'
  rcases hh with hh | ⟨b0, len, cap0, hh, hlen, rfl⟩
  · omega
  cases br with
  | rowNil _ a0 hh' => simp only [List.length_nil] at hle; omega
  | row _ _ b' cap' vs et hh' hcap hw hl hs hre =>
    rw [hh] at hh'
    cases hh'
    obtain ⟨inf, zv, q1, q2, q3, q4, q5⟩ := (hcx _ ie hie).info
    rw [hety] at q2 q5
    have hzs : zv.cells.size = (eTy e1).size := by rw [← zvals_len, ← q5]; simp
    have hmul1 : lo * (eTy e1).size + (hi' - lo) * (eTy e1).size = hi' * (eTy e1).size := by rw [← Nat.add_mul]; congr 1; omega
    have hmul2 : hi' * (eTy e1).size ≤ l1.length * (eTy e1).size := Nat.mul_le_mul_right _ hle
    have hmul3 : l1.length * (eTy e1).size ≤ cap0 * (eTy e1).size := Nat.mul_le_mul_right _ hl
    have hzl : (Builtin.zeroCells zv.cells (hi' - lo)).toList.length = (hi' - lo) * (eTy e1).size := by rw [Array.length_toList, size_zeroCells, hzs]
    have hzr := zero_rep hz q5 S (hi' - lo)
    obtain ⟨w', g1, a1, a2, a3, a4, a5, a6⟩ := run_storeCells_in P b0 et (Builtin.zeroCells zv.cells (hi' - lo)).toList w vs.toList (lo * (eTy e1).size) 0 (by simpa using hw) (by simp only [Array.length_toList] at hzl ⊢; rw [size_zeroCells, hzs]; omega)
      (ERep.ones hzr (by rw [hzl, List.length_replicate]))
    simp only [Nat.add_zero] at a6
    have hrun : (Builtin.clear_ #[t] o.type #[.slice (some ⟨b0, lo * (eTy e1).size, none⟩) (hi' - lo) cap]).run P w = .ok (.tuple #[]) w' := by
      obtain ⟨n, hn⟩ : ∃ n, hi' - lo = n + 1 := ⟨hi' - lo - 1, by omega⟩
      rw [hn] at g1 ⊢
      simp [Builtin.clear_, run_underlying hu, zeroValue, typeInfo, q1, q4, g1]
    have hbl : blkOf (hdr id) = some b0 := by
      rw [hh]
      cases cap0 with
      | zero => omega
      | succ n => rfl
    refine Sat.value ((hexec _ hrun).trans rfl) (post_put pre.real pre.ment id (.row e1 (l1.take lo ++ List.replicate (hi' - lo) z ++ l1.drop hi')) _ hb' (fun n hn => by cases hn) w' b0 hbl a1 a2 a3 a4 a5 ?_) (.tup _ _ .nil) fun m hm => by simp [AV.ids, AV.idsL] at hm
    have hll : (l1.take lo ++ List.replicate (hi' - lo) z ++ l1.drop hi').length = l1.length := by simp only [List.length_append, List.length_take, List.length_replicate, List.length_drop]; omega
    obtain ⟨olds, o1, o2, o3⟩ := hre.news
    have ho : vs.toList.take (l1.length * (eTy e1).size) = olds := by
      refine List.ext_getElem? fun k => ?_
      by_cases hk : k < l1.length * (eTy e1).size
      · rw [List.getElem?_take_of_lt hk, Array.getElem?_toList]
        have := o2 k (by omega)
        rwa [Nat.zero_add] at this
      · rw [List.getElem?_eq_none (by simp only [List.length_take]; omega), List.getElem?_eq_none (by omega)]
    refine .row e1 _ b0 cap0 _ et (by rw [hll]; exact hh) hcap a6 (by rw [hll]; exact hl) ?_ ?_
    · simp only [List.size_toArray, List.length_append, List.length_take, List.length_drop, Array.length_toList, hzl] at *; omega
    · have r1 := ERep.take o3 o1 lo (by omega)
      have r2 := ERep.drop o3 o1 hi' hle
      have c1 := ERep.append r1 (by rw [List.length_take, List.length_take, o1, Nat.min_eq_left (by omega), Nat.min_eq_left (by omega)]) hzr (by rw [hzl, List.length_replicate]) []
      rw [List.append_nil] at c1
      have c2 := ERep.append c1 (by rw [List.length_append, List.length_append, List.length_take, List.length_take, hzl, List.length_replicate, o1, Nat.min_eq_left (by omega), Nat.min_eq_left (by omega), Nat.add_mul]) r2
        (by rw [List.length_drop, List.length_drop, o1, Nat.sub_mul]) (vs.toList.drop (l1.length * (eTy e1).size))
      have e2 : vs.toList.take (lo * (eTy e1).size) ++ (Builtin.zeroCells zv.cells (hi' - lo)).toList ++ vs.toList.drop (lo * (eTy e1).size + (Builtin.zeroCells zv.cells (hi' - lo)).toList.length) =
          olds.take (lo * (eTy e1).size) ++ (Builtin.zeroCells zv.cells (hi' - lo)).toList ++ olds.drop (hi' * (eTy e1).size) ++ vs.toList.drop (l1.length * (eTy e1).size) := by
        rw [hzl, hmul1, ← ho, List.take_take, Nat.min_eq_left (by omega), List.append_assoc (_ ++ _)]
        congr 1
        rw [List.drop_take]
        have e3 : vs.toList.drop (l1.length * (eTy e1).size) = (vs.toList.drop (hi' * (eTy e1).size)).drop (l1.length * (eTy e1).size - hi' * (eTy e1).size) := by rw [List.drop_drop]; congr 1; omega
        rw [e3, List.take_append_drop]
      rw [e2]; exact c2
end
end Go.Proofs.YtmjbedjnojcmfaaDoor.Ex

namespace Go.Proofs.YtmjbedjnojcmfaaDoor.Ex
set_option linter.unusedSectionVars false
section
variable [RT] {P : Program} {cx : Ctx} {cal : FuncId → List AV → Prog AV} {o : Oper} {a : Act} {w : World} {T : Tm} {tr : Bool} {ok : Nat → Prop} {hdr : Nat → Value} {S : Stb} {h h' : Hp} {f f' : Foot} {v : AV}

def Callable (P : Program) (n : FuncId) : Prop := ∀ args w, (callFunc n args).run P w = .ok (.enter n args) w

def SoundA (P : Program) (n : FuncId) (p : List AV → Prog AV) : Prop :=
  ∀ (tr : Bool) (args : List AV) (h : Hp) (ft : Foot) (v : AV) (h' : Hp) (ft' : Foot) (vals : List Value) (hdr : Nat → Value) (S : Stb) (w : World) (ok : Nat → Prop),
    ex (p args) tr h ft = some (v, h', ft') → HReal hdr S h.blks w → Ment ok h.blks → VReps hdr S args vals → (∀ n ∈ AV.idsL args, ok n) → (∀ id, ok id → Out tr h.c h'.c id) →
    Callable P n ∧ Calls P n vals.toArray w fun e w' => ∃ u hdr' S', e = .returned u ∧ Post tr ok hdr S h w hdr' S' h' w' ∧ VRep hdr' S' v u ∧ (∀ n ∈ v.ids, okn ok h.c h'.c n)

def SoundAt (P : Program) (n : FuncId) (vals : List Value) (p : List AV → Prog AV) : Prop :=
  ∀ (tr : Bool) (args : List AV) (h : Hp) (ft : Foot) (v : AV) (h' : Hp) (ft' : Foot) (hdr : Nat → Value) (S : Stb) (w : World) (ok : Nat → Prop),
    ex (p args) tr h ft = some (v, h', ft') → HReal hdr S h.blks w → Ment ok h.blks → VReps hdr S args vals → (∀ n ∈ AV.idsL args, ok n) → (∀ id, ok id → Out tr h.c h'.c id) →
    Callable P n ∧ Calls P n vals.toArray w fun e w' => ∃ u hdr' S', e = .returned u ∧ Post tr ok hdr S h w hdr' S' h' w' ∧ VRep hdr' S' v u ∧ (∀ n ∈ v.ids, okn ok h.c h'.c n)
theorem SoundA.at {P : Program} {n : FuncId} {p : List AV → Prog AV} (h : SoundA P n p) (vals : List Value) : SoundAt P n vals p :=
  fun tr args h0 ft v h' ft' hdr S w ok => h tr args h0 ft v h' ft' vals hdr S w ok
theorem SoundA.of {P : Program} {n : FuncId} {p : List AV → Prog AV} (h : ∀ vals, SoundAt P n vals p) : SoundA P n p :=
  fun tr args h0 ft v h' ft' vals hdr S w ok => h vals tr args h0 ft v h' ft' hdr S w ok

def CalOk (P : Program) (cal : FuncId → List AV → Prog AV) : Prop := ∀ n, SoundA P n (cal n)

theorem sat_callF (hcal : CalOk P cal) (pre : Pre P tr ok hdr S h w T a) (hO : ∀ id, ok id → Out tr h.c h'.c id) {c : Call} {x : Operand} (ho : o.op = .call c) (hc : c.callee = .value x) {g : FuncId} {first caps : List AV} (hev : evO T x = .clo g first caps)
    (e : ex (cal g (first ++ evL T c.args.toList ++ caps)) tr h f = some (v, h', f')) : Sat P o a w tr ok hdr S h h' v := by
  have hx := evO_rep pre.tmps x
  have hxi := evO_ids pre.tok x
  rw [hev] at hx hxi
  generalize hxv : a.eval x = xv at hx
  cases hx with | clo _ _ _ fs cs h1 h2 =>
  have hl := evL_rep pre.tmps c.args.toList
  have hli := evL_ids pre.tok c.args.toList
  simp only [AV.ids, List.mem_append] at hxi
  obtain ⟨hcall, hcalls⟩ := hcal g tr _ h f v h' f' _ hdr S w ok e pre.real pre.ment ((h1.append hl).append h2) (fun n hn => by
    simp only [idsL_append, List.mem_append] at hn
    rcases hn with (k | k) | k
    · exact hxi n (.inl k)
    · exact hli n k
    · exact hxi n (.inr k)) hO
  intro next Q K
  have hexec : (execOp a.eval o).run P w = .ok (.enter g (fs ++ c.args.toList.map a.eval ++ cs).toArray) w := by
    have e1 : fs.toArray ++ Array.map a.eval c.args ++ cs.toArray = (fs ++ c.args.toList.map a.eval ++ cs).toArray := by
      apply Array.ext'
      simp
    simp only [execOp, ho, resolve, hc, hxv, Deferred.ofValue, Sem.run_bind, Sem.run_pure, Result.andThen_ok, invoke, e1]
    exact hcall _ _
  unfold Oper.wp
  rw [hexec]
  show Calls P g _ w _
  exact hcalls.mono fun e w' he => by
    obtain ⟨u, hdr', S', rfl, hp, hv, hi⟩ := he
    exact K u w' hdr' S' hp hv hi

theorem opP_sound (hcx : TabOk P cx.tab) (hcmp : CmpsOk P cx.tab) (hcal : CalOk P cal) (pre : Pre P tr ok hdr S h w T a) (hO : ∀ id, ok id → Out tr h.c h'.c id) (e : ex (opP cx cal T o) tr h f = some (v, h', f')) :
    Sat P o a w tr ok hdr S h h' v := by
  cases hop : o.op with
  | move x => exact sat_move pre (x := x) (by simp [execOp, hop]) (by simpa only [opP, hop] using e)
  | assign x => exact sat_move pre (x := x) (by simp [execOp, hop]) (by simpa only [opP, hop] using e)
  | pick c x y => exact sat_pick pre hop e
  | alloc t => exact sat_alloc hcx pre hO hop e
  | box t x => exact sat_box pre hO hop e
  | load t x => exact sat_load hcx pre hop e
  | store t x y => exact sat_store hcx pre hop e
  | fieldAddr t x i => exact sat_fieldAddr hcx pre hop e
  | indexAddr t x i => exact sat_indexAddr hcx pre hop e
  | index t x i => exact sat_index hcx pre hop e
  | binOp op t x y t' => exact sat_binOp hcx hcmp pre hop e
  | unOp op t x => exact sat_unOp pre hop e
  | convert s d x => exact sat_convert hcx pre hop e
  | build t ps => exact sat_build hcx pre hop e
  | buildSlice t n ps => exact sat_buildSlice hcx pre hO hop e
  | makeSlice t x y => exact sat_makeSlice hcx pre hO hop e
  | slice t x lo hi mx => exact sat_slice hcx pre hop e
  | extract x i => exact sat_extract pre hop e
  | field t x i => exact sat_field hcx pre hop e
  | makeFunc fn x y => exact sat_makeFunc pre hop e
  | nilCheck x => exact sat_nilCheck pre hop e
  | call c =>
    simp only [opP, hop] at e
    cases hc : c.callee with
    | value x =>
      simp only [hc] at e
      split at e
      · rename_i g first caps hev
        exact sat_callF hcal pre hO hop hc hev e
      · exact (ex_fail e).elim
    | invoke x m => simp only [hc] at e; exact (ex_fail e).elim
    | builtin b =>
      simp only [hc] at e
      unfold builtinP at e
      split at e
      · rename_i t x hat hargs
        obtain ⟨i, hi, e⟩ := ex_opt e
        have ha : c.argTypes = #[t] := by apply Array.ext'; simpa using hat
        have hx : ∃ y, c.args = #[y] ∧ x = evO T y := by
          match hcl : c.args.toList with
          | [] => rw [hcl] at hargs; cases hargs
          | [y] => rw [hcl] at hargs; simp only [evL, List.cons.injEq, and_true] at hargs; exact ⟨y, by apply Array.ext'; simpa using hcl, hargs.symm⟩
          | y :: z :: r => rw [hcl] at hargs; simp [evL] at hargs
        obtain ⟨y, hy, rfl⟩ := hx
        exact sat_len hcx pre hop hc ha hy hi e
      · rename_i k n r hargs
        exact sat_max pre hop hc hargs e
      · rename_i k n r hargs
        exact sat_min pre hop hc hargs e
      · rename_i t t' s x hat hargs
        obtain ⟨i, hi, e⟩ := ex_opt e
        obtain ⟨ie, hie, e⟩ := ex_opt e
        obtain ⟨e0, he0, e⟩ := ex_opt e
        rcases ex_cond e with ⟨hk, e5⟩ | ⟨_, e5⟩
        case inr => exact (ex_fail e5).elim
        simp only [Bool.and_eq_true, Bool.not_eq_true'] at hk
        have htt := nb_iff.1 hk.1
        subst htt
        have ha : c.argTypes = #[t, t] := by apply Array.ext'; simpa using hat
        have hx : ∃ y z, c.args = #[y, z] ∧ s = evO T y ∧ x = evO T z := by
          match hcl : c.args.toList with
          | [] => rw [hcl] at hargs; cases hargs
          | [y] => rw [hcl] at hargs; simp [evL] at hargs
          | [y, z] => rw [hcl] at hargs; simp only [evL, List.cons.injEq, and_true] at hargs; exact ⟨y, z, by apply Array.ext'; simpa using hcl, hargs.1.symm, hargs.2.symm⟩
          | y :: z :: q :: r => rw [hcl] at hargs; simp [evL] at hargs
        obtain ⟨y, z, hyz, rfl, rfl⟩ := hx
        exact sat_append hcx pre hO hop hc ha hyz hi hie he0 hk.2 e5
      · rename_i t id sz lo hi' hat hargs
        obtain ⟨i, hi, e⟩ := ex_opt e
        obtain ⟨e0, he0, e⟩ := ex_opt e
        have ha : c.argTypes = #[t] := by apply Array.ext'; simpa using hat
        have hx : ∃ y, c.args = #[y] ∧ evO T y = .sub id sz lo hi' := by
          match hcl : c.args.toList with
          | [] => rw [hcl] at hargs; cases hargs
          | [y] => rw [hcl] at hargs; simp only [evL, List.cons.injEq, and_true] at hargs; exact ⟨y, by apply Array.ext'; simpa using hcl, hargs⟩
          | y :: z :: r => rw [hcl] at hargs; simp [evL] at hargs
        obtain ⟨y, hy, hev⟩ := hx
        exact sat_clear hcx pre hop hc ha hy hi he0 hev e
      · exact (ex_fail e).elim
  | _ => simp only [opP, hop] at e; exact (ex_fail e).elim
end
end Go.Proofs.YtmjbedjnojcmfaaDoor.Ex

