/- A part of the proofs of which programs may be: QE. -/
import Derived.Test.YtmjbedjnojcmfaaDoorQD
namespace Go.Proofs.YtmjbedjnojcmfaaDoor.Ex
set_option linter.unusedSectionVars false
section
variable [RT] {P : Program}

def cop5 (t : TypeId) (s3 : String) : Oper := { dst := some 5, op := Op.buildSlice t 0 #[], type := t, pos := s3, after := #[], guard := none }

def cop6 (t : TypeId) (s3 : String) : Oper := { dst := some 6, op := Op.move (Operand.tmp 0), type := t, pos := s3, after := #[], guard := none }
def cop7 (t : TypeId) (s3 : String) : Oper := { dst := some 7, op := Op.call { callee := Callee.builtin Builtin.append, args := #[Operand.tmp 5, Operand.tmp 6], argTypes := #[t, t] }, type := t, pos := s3, after := #[{ on := 0, ground := Ground.data }, { on := 1, ground := Ground.data }], guard := none }
def cop8 (t : TypeId) (s3 : String) : Oper := { dst := some 2, op := Op.assign (Operand.tmp 7), type := t, pos := s3, after := #[{ on := 2, ground := Ground.data }, { on := 2, ground := Ground.chain }, { on := 0, ground := Ground.phase }, { on := 1, ground := Ground.phase }, { on := 2, ground := Ground.phase }], guard := none }

def cloneC (t tb : TypeId) (s0 s1 s2 s3 : String) : Code :=
  (Code.region 0 #[{ dst := some 2, op := Op.assign (Operand.const (Value.slice none 0 0)), type := t, pos := s0, after := #[], guard := none }] false).seq
    (((Code.region 1 #[{ dst := some 3, op := Op.move (Operand.tmp 0), type := t, pos := s1, after := #[], guard := none },
        { dst := some 4, op := Op.binOp BinOp.eql t (Operand.tmp 3) (Operand.const (Value.slice none 0 0)) t, type := tb, pos := s1, after := #[{ on := 0, ground := Ground.data }], guard := none }] false).seq
      (Code.cond (Operand.tmp 4)
        ((Code.region 2 #[{ dst := some 2, op := Op.assign (Operand.const (Value.slice none 0 0)), type := t, pos := s2, after := #[], guard := none }] false).seq Code.ret)
        Code.skip)).seq
    ((Code.region 3 #[cop5 t s3, cop6 t s3, cop7 t s3, cop8 t s3] false).seq Code.ret))

def cloneP (bytes : Nat) (e : Ty) (args : List AV) : Prog AV := match args with
  | [x] => .new (.row e []) fun i => content x e fun l' => .get i fun
    | .row e1 l1 => .opt (castL e1 e l1) fun l => .ite (decide ((l.length + l'.length + 1) * bytes ≤ lim)) (.del i (.new (.row e (l ++ l')) fun id' => .ret (.row id'))) .fail
    | .box _ => .fail
  | _ => .fail

theorem wpOps_sat {o : Oper} {a : Act} {w : World} {tr : Bool} {ok : Nat → Prop} {hdr : Nat → Value} {S : Stb} {h h' : Hp} {v : AV} {ops : Array Oper} {Q : Exit → Act → World → Prop} {i : Nat} {rest : List Nat}
    (hi : ops[i]? = some o) (hg : o.guard = none) (s : Sat P o a w tr ok hdr S h h' v)
    (K : ∀ u w' hdr' S', Post tr ok hdr S h w hdr' S' h' w' → VRep hdr' S' v u → (∀ n ∈ v.ids, okn ok h.c h'.c n) → wpOps P ops Q rest (a.put o.dst u) w') : wpOps P ops Q (i :: rest) a w := by
  rw [wpOps_cons]
  unfold wpOp
  simp only [hi]
  rw [if_pos (by unfold Region.wanted; rw [hg])]
  exact .inl (s _ Q K)
theorem wpOps_val {o : Oper} {a : Act} {w : World} {ops : Array Oper} {Q : Exit → Act → World → Prop} {i : Nat} {rest : List Nat} {u : Value}
    (hi : ops[i]? = some o) (hg : o.guard = none) (hx : (execOp a.eval o).run P w = .ok (.value u) w) (K : wpOps P ops Q rest (a.put o.dst u) w) : wpOps P ops Q (i :: rest) a w := by
  rw [wpOps_cons]
  unfold wpOp
  simp only [hi]
  rw [if_pos (by unfold Region.wanted; rw [hg])]
  refine .inl ?_
  unfold Oper.wp
  rw [hx]
  exact K

theorem nil_content {x : AV} {no : Nat} {cap : Nat} {e : Ty} {tr : Bool} {h : Hp} {f : Foot} {hdr : Nat → Value} {S : Stb} {w : World} {k : List (D e) → Prog AV} {r : AV × Hp × Foot} (hr : HReal hdr S h.blks w) (hx : VRep hdr S x (.slice none no cap))
    (q : ex (content x e k) tr h f = some r) : no = 0 ∧ ∃ f1, ex (k []) tr h f1 = some r := by
  unfold content at q
  split at q
  · cases hx; exact ⟨rfl, f, q⟩
  · rename_i e' l
    cases hx with | sl _ _ v hd =>
    obtain ⟨l2, h2, q⟩ := ex_opt q
    obtain ⟨rfl, rfl⟩ := castL_eq h2
    cases hd with
    | slNil _ ao cap => exact ⟨rfl, f, q⟩
  · rename_i id
    obtain ⟨b, hb, q⟩ := ex_get q
    cases hx with | row _ _ _ _ hh =>
    have br := hr.blk id _ hb
    cases br with
    | box => exact (ex_fail q).elim
    | rowNil e1 a0 hh' =>
      rw [hh] at hh'; cases hh'
      obtain ⟨l2, h2, q⟩ := ex_opt q
      obtain ⟨he, hl⟩ := castL_eq h2
      subst he
      simp only at hl
      subst hl
      exact ⟨rfl, _, q⟩
    | row _ _ _ _ _ _ hh' => rw [hh] at hh'; cases hh'
  · rename_i id sz lo hi
    obtain ⟨b, hb, q⟩ := ex_get q
    cases hx with | sub _ _ _ _ _ _ hh hcc =>
    have hlh : hi ≤ lo := hh.elim (fun k => k) fun ⟨_, _, _, _, _, k⟩ => nomatch k
    split at q
    · rename_i e' l
      rcases ex_cond q with ⟨_, q⟩ | ⟨_, q⟩
      case inr => exact (ex_fail q).elim
      obtain ⟨l2, h2, q⟩ := ex_opt q
      obtain ⟨he, hl⟩ := castL_eq h2
      subst he
      simp only at hl
      subst hl
      rw [show (l.take hi).drop lo = [] from List.length_eq_zero_iff.1 (by simp; omega)] at q
      exact ⟨by omega, _, q⟩
    · exact (ex_fail q).elim
  · exact (ex_fail q).elim

theorem bin_val {o : Oper} {a : Act} {w : World} {op : BinOp} {t t' : TypeId} {x y : Operand} {X Y z : Value} (ho : o.op = .binOp op t x y t') (hx : a.eval x = X) (hy : a.eval y = Y)
    (h : ((do eqGuard op t x y X Y; binOp op t X Y) : Sem Value).run P w = .ok z w) : (execOp a.eval o).run P w = .ok (.value z) w := by
  subst hx hy
  simp only [Sem.run_bind] at h
  simp only [execOp, ho, Sem.run_bind, h, Result.andThen_ok, Sem.run_pure]

theorem clone_sound {cx : Ctx} {cal : FuncId → List AV → Prog AV} (hcx : TabOk P cx.tab) {g : FuncId} {fn : Func} (hf : P.funcs[g]? = some fn) (hname : (fn.name == "runtime.NumGoroutine") = false) {t tb : TypeId} {s0 s1 s2 s3 : String}
    (hb : fn.body = some (cloneC t tb s0 s1 s2 s3)) (hn : fn.ntmps = 8) (hres : fn.results = #[.tmp 2]) {i ie : TInfo} (hi : tiL cx.tab t = some i) (hie : tiL cx.tab i.elem = some ie) {e : Ty} (he : slTy i.ty = some e)
    (hby : Nat.beq ie.bytes 0 = false) : SoundA P g (cloneP ie.bytes e) := by
  intro tr args h ft v h' ft' vals hdr S w ok ev hr hm hv hids hO
  unfold cloneP at ev
  split at ev
  case h_2 => exact (ex_fail ev).elim
  rename_i x
  cases hv with | cons _ u _ _ hx hvn =>
  cases hvn
  have ev1 := ex_new ev
  have hsl := slTy_eq he
  obtain ⟨hu, ie', hie', hety⟩ := (hcx t i hi).slice hsl
  have hm1 : tr = true → h.c + 1 ≤ h'.c := fun ht => by subst ht; exact ex_mono _ _ _ _ ev1
  have hO1 : ∀ id, ok id → Out tr h.c (h.c + 1) id := fun id k => (hO id k).less hm1
  have p0 := post_new' (tr := tr) (ok := ok) hr hm hO1 (.row e []) (fun n hn => by cases hn) w rfl rfl rfl (Nat.le_refl _) (fun _ _ => rfl) (.slice none 0 0) (.inl rfl) (fun hdr' _ g2 => .rowNil e none g2)
  have hx0 := p0.vrep hx (fun n hn => hids n (by simpa [AV.idsL] using hn)) hO1
  refine ⟨fun args w => MuLone.run_callFunc_enter hf hname hb args w, calls_of_wp hf hb ?_⟩
  unfold cloneC
  have hsz : (#[u] ++ Array.replicate (fn.ntmps - (#[u] : Array Value).size) undef) = #[u, undef, undef, undef, undef, undef, undef, undef] := by rw [hn]; rfl
  have hv0 : ([u] : List Value).toArray = #[u] := rfl
  rw [hv0, hsz]
  refine wp_seq (wp_region (wpOps_val (o := _) rfl rfl (u := .slice none 0 0) (by simp [execOp, Act.eval]) ?_))
  show wpOps P _ _ [] _ _
  refine wp_seq (wp_seq (wp_region (wpOps_val (o := _) rfl rfl (u := u) (by simp [execOp, Act.eval, Act.put]) ?_)))
  have hslice : ∃ bo n cap, u = .slice bo n cap := by
    obtain ⟨l0, f0, ev2, bo, cap0, hu0, -⟩ := content_rep (P := P) p0.real hx0 ev1
    exact ⟨bo, _, _, hu0⟩
  obtain ⟨bo, n, cap, rfl⟩ := hslice
  have heq : ∀ (x y : Operand), ((do eqGuard .eql t x y (.slice bo n cap) (.slice none 0 0); binOp .eql t (.slice bo n cap) (.slice none 0 0)) : Sem Value).run P w = .ok (.bool bo.isNone) w := by
    intro x y
    have g3 : binOp .eql t (.slice bo n cap) (.slice none 0 0) = (do pure (.bool (← Op.equal t (.slice bo n cap) (.slice none 0 0)))) := rfl
    have g1 : (eqGuard .eql t x y (.slice bo n cap) (.slice none 0 0)).run P w = .ok () w := rfl
    have g2 : (Op.equal t (.slice bo n cap) (.slice none 0 0)).run P w = .ok bo.isNone w := by
      show (Op.equalIn (9999 + 1) t _ _).run P w = _
      unfold Op.equalIn
      simp only [Sem.run_bind, run_underlying hu, Result.andThen_ok]
      cases bo <;> rfl
    simp only [g3, Sem.run_bind, g1, Result.andThen_ok, g2, Sem.run_pure]
  refine wpOps_val (o := _) rfl rfl (u := .bool bo.isNone) (bin_val (z := .bool bo.isNone) rfl (by simp [Act.eval, Act.put]) (by simp [Act.eval]) (heq _ _)) ?_
  show wpOps P _ _ [] _ _
  have fin : ∀ (a : Act) (w1 : World) (u1 : Value) (R : Ending → World → Prop), a.defers = [] → a.tmps.getD 2 undef = u1 → R (.returned u1) w1 → bodyPost P fn R .ret a w1 := fun a w1 u1 R hd ht hR =>
    ⟨hd, u1, by
      have := results_sound (P := P) (fn := fn) (a := a) (w := w1) (us := [u1]) (by rw [hres]; simp [resG, ht])
      rw [this]; rfl, hR⟩
  cases bo with
  | none =>
    obtain ⟨rfl, f1, ev2⟩ := nil_content p0.real hx0 ev1
    refine wp_cond_true (by simp [Act.eval, Act.put]) ?_
    refine wp_seq (wp_region (wpOps_val (o := _) rfl rfl (u := .slice none 0 0) (by simp [execOp, Act.eval]) ?_))
    show wpOps P _ _ [] _ _
    refine wp_ret ?_
    simp only [Exit.then]
    refine fin _ _ (.slice none 0 0) _ rfl (by simp [Act.put]) ?_
    obtain ⟨b1, hb1, ev3⟩ := ex_get ev2
    have hb2 : b1 = .row e [] := by
      have : findB ((h.c, Blk.row e []) :: h.blks) h.c = some (.row e []) := by rw [findB_cons, if_pos rfl]
      rw [this] at hb1; exact (Option.some.inj hb1).symm
    subst hb2
    obtain ⟨l2, hl2, ev4⟩ := ex_opt ev3
    obtain ⟨he2, hl3⟩ := castL_eq hl2
    simp only at hl3
    subst hl3
    rcases ex_ite ev4 with ⟨_, ev5⟩ | ⟨_, ev5⟩
    case inr => exact (ex_fail ev5).elim
    obtain ⟨_, ev6⟩ := ex_del ev5
    have ev7 := ex_new ev6
    cases ex_ret ev7
    have pdel := post_del (tr := tr) p0.real p0.ment h.c _ hb1 S (fun _ _ k => k) (fun _ _ k => .inl k)
    have p1 := p0.trans pdel
    have pnew := post_new' (tr := tr) pdel.real pdel.ment (fun id k => by
      rcases k with k | k
      · rcases k with k | k
        · rcases hO id k with q | ⟨ht, q⟩
          · exact .inl (Nat.lt_succ_of_lt q)
          · exact .inr ⟨ht, q⟩
        · exact .inl k.2
      · exact .inl k.2) (.row e ([] ++ [])) (fun n hn => by cases hn) w rfl rfl rfl (Nat.le_refl _) (fun _ _ => rfl) (.slice none 0 0) (.inl rfl) (fun hdr' _ g2 => .rowNil e none g2)
    refine ⟨.slice none 0 0, _, _, rfl, p0.trans (pdel.trans pnew), .row _ _ _ _ (hdrN_same _ _ _), fun n hn => ?_⟩
    simp only [AV.ids, List.mem_singleton] at hn
    subst hn
    exact .inr ⟨by simp, by simp⟩
  | some ad =>
    refine wp_cond_false (by simp [Act.eval, Act.put]) (wp_skip ?_)
    show Code.wp P (.seq _ _) _ _ _
    refine wp_seq (wp_region ?_)
    generalize hA : (Act.put _ _ _ : Act) = a1
    have t0 : a1.tmps.getD 0 undef = .slice (some ad) n cap := by subst hA; simp [Act.put]
    have tsz : a1.tmps.size = 8 := by subst hA; simp [Act.put]
    have td : a1.defers = [] := by subst hA; simp [Act.put]
    clear hA
    have pre1 : Pre P tr ok hdr S h w [(0, x)] a1 := ⟨hr, hm, fun s => by
      rw [getT_cons]
      by_cases k : 0 = s
      · rw [if_pos k, ← k, t0]; exact hx
      · rw [if_neg k]; exact .undef _, fun s m hs => by
      rw [getT_cons] at hs
      by_cases k : 0 = s
      · rw [if_pos k] at hs; exact hids m (by simpa [AV.idsL] using hs)
      · rw [if_neg k] at hs; simp [getT, AV.ids] at hs⟩
    show wpOps P _ _ [0, 1, 2, 3] _ _
    refine wpOps_sat (o := cop5 t s3) rfl rfl (sat_buildSlice (cx := cx) (cal := cal) (f := ft) hcx pre1 hO1 rfl (v := .row h.c) (h' := ⟨(h.c, .row e []) :: h.blks, h.c + 1⟩) (f' := addW tr ft h.c) ?_) ?_
    · unfold cop5
      simp only [opP]
      rw [hi]
      simp only [ex, run, Option.bind_some]
      rw [hie, he]
      simp only [Option.bind_some, Nat.zero_mul]
      rfl
    intro u5 w5 hdr5 S5 p5 v5 i5
    have pre2 : Pre P tr (okn ok h.c (h.c + 1)) hdr5 S5 ⟨(h.c, .row e []) :: h.blks, h.c + 1⟩ w5 [(6, x), (5, .row h.c)] ((a1.put (some 5) u5).put (some 6) (.slice (some ad) n cap)) := by
      refine ⟨p5.real, p5.ment, fun s => ?_, fun s m hs => ?_⟩
      · rw [getT_cons, getT_cons]
        by_cases k : 6 = s
        · rw [if_pos k, ← k]
          have e6 : ((a1.put (some 5) u5).put (some 6) (.slice (some ad) n cap)).tmps.getD 6 undef = .slice (some ad) n cap := by simp [Act.put, tsz]
          rw [e6]
          exact p5.vrep hx (fun n hn => hids n (by simpa [AV.idsL] using hn)) hO1
        · rw [if_neg k]
          by_cases k : 5 = s
          · rw [if_pos k, ← k]
            have e6 : ((a1.put (some 5) u5).put (some 6) (.slice (some ad) n cap)).tmps.getD 5 undef = u5 := by simp [Act.put, tsz]
            rw [e6]
            exact v5
          · rw [if_neg k]; exact .undef _
      · rw [getT_cons, getT_cons] at hs
        by_cases k : 6 = s
        · rw [if_pos k] at hs; exact .inl (hids m (by simpa [AV.idsL] using hs))
        · rw [if_neg k] at hs
          by_cases k : 5 = s
          · rw [if_pos k] at hs; exact i5 m hs
          · rw [if_neg k] at hs; simp [getT, AV.ids] at hs
    have hO2 : ∀ id, okn ok h.c (h.c + 1) id → Out tr (h.c + 1) h'.c id := out_okn hO (Nat.le_succ _)
    refine wpOps_val (o := cop6 t s3) rfl rfl (u := .slice (some ad) n cap) (by
      have : (a1.put (some 5) u5).tmps.getD 0 undef = .slice (some ad) n cap := by simpa [Act.put] using t0
      simp only [execOp, cop6, Act.eval]
      show (pure (Next.value _) : Sem Next).run P w5 = _
      rw [Sem.run_pure]
      exact congrArg (fun z => Result.ok (Next.value z) w5) this) ?_
    refine wpOps_sat (o := cop7 t s3) rfl rfl (sat_append (cx := cx) (f := addW tr ft h.c) hcx pre2 hO2 rfl rfl rfl rfl hi hie he hby ev1) ?_
    intro u7 w7 hdr7 S7 p7 v7 i7
    refine wpOps_val (o := cop8 t s3) rfl rfl (u := u7) (by
      simp only [execOp, cop8, Act.eval]
      show (pure (Next.value _) : Sem Next).run P w7 = _
      rw [Sem.run_pure]
      refine congrArg (fun z => Result.ok (Next.value z) w7) ?_
      simp [Act.put, tsz, cop5, cop6, cop7]) ?_
    show wpOps P _ _ [] _ _
    refine wp_ret ?_
    refine fin _ _ u7 _ (by simpa [Act.put, cop5, cop6, cop7, cop8] using td) (by simp [Act.put, tsz, cop5, cop6, cop7, cop8]) ?_
    exact ⟨u7, hdr7, S7, rfl, p5.trans p7, v7, fun m hm => okn_trans (Nat.le_succ _) p7.mono m (i7 m hm)⟩
end
end Go.Proofs.YtmjbedjnojcmfaaDoor.Ex

namespace Go.Proofs.YtmjbedjnojcmfaaDoor.Ex
set_option linter.unusedSectionVars false
section
variable [RT]
inductive WT where
  | auto
  | ask (n : Nat) (t f : WT)
  | cut
inductive Tr where
  | no
  | leaf (v : AV) (h : Hp)
  | node (b : Bool) (x y : Tr)
  | dead

def Tr.sem : Tr → Option (AV × Hp)
  | .no => none
  | .leaf v h => some (v, h)
  | .node b x y => cond b x.sem y.sem
  | .dead => none

def WT.isCut : WT → Bool
  | .cut => true
  | _ => false
def iteT (b : Bool) (w : WT) (p q : WT → Tr) : Tr := match w with
  | .auto => cond b (p .auto) (q .auto)
  | .ask 0 t f => .node b (bif t.isCut then .dead else p t) (bif f.isCut then .dead else q f)
  | .ask (n + 1) t f => cond b (p (.ask n t f)) (q (.ask n t f))
  | .cut => .dead

theorem iteT_sem {b : Bool} {w : WT} {p q : WT → Tr} {r : AV × Hp} (e : (iteT b w p q).sem = some r) : (b = true ∧ ∃ w', (p w').sem = some r) ∨ (b = false ∧ ∃ w', (q w').sem = some r) := by
  unfold iteT at e
  split at e
  · cases b
    · exact .inr ⟨rfl, _, e⟩
    · exact .inl ⟨rfl, _, e⟩
  · rename_i t f
    cases b
    · refine .inr ⟨rfl, f, ?_⟩
      change (bif f.isCut then Tr.dead else q f).sem = some r at e
      cases hc : f.isCut <;> rw [hc] at e
      · exact e
      · cases e
    · refine .inl ⟨rfl, t, ?_⟩
      change (bif t.isCut then Tr.dead else p t).sem = some r at e
      cases hc : t.isCut <;> rw [hc] at e
      · exact e
      · cases e
  · cases b
    · exact .inr ⟨rfl, _, e⟩
    · exact .inl ⟨rfl, _, e⟩
  · cases e
end
end Go.Proofs.YtmjbedjnojcmfaaDoor.Ex

namespace Go.Proofs.YtmjbedjnojcmfaaDoor.Ex
set_option linter.unusedSectionVars false
noncomputable def lenR {α : Type} (l : List α) : Nat := @List.rec α (fun _ => Nat) 0 (fun _ _ ih => Nat.succ ih) l
theorem lenR_eq {α : Type} (l : List α) : lenR l = l.length := by
  induction l with
  | nil => rfl
  | cons a l ih => show Nat.succ (lenR l) = _; rw [ih]; rfl
noncomputable def nthR {α : Type} (l : List α) : Nat → Option α := @List.rec α (fun _ => Nat → Option α) (fun _ => none) (fun hd _ ih k => @Nat.rec (fun _ => Option α) (some hd) (fun k _ => ih k) k) l
theorem nthR_eq {α : Type} (l : List α) (k : Nat) : nthR l k = l[k]? := by
  induction l generalizing k with
  | nil => rfl
  | cons a l ih =>
    cases k with
    | zero => rfl
    | succ k => show nthR l k = _; rw [ih]; rfl
noncomputable def dropO {α : Type} (l : List α) : Nat → Option (List α) := @List.rec α (fun _ => Nat → Option (List α)) (fun k => @Nat.rec (fun _ => Option (List α)) (some []) (fun _ _ => none) k) (fun hd tl ih k => @Nat.rec (fun _ => Option (List α)) (some (hd :: tl)) (fun k _ => ih k) k) l
noncomputable def takeO {α : Type} (l : List α) : Nat → Option (List α) := @List.rec α (fun _ => Nat → Option (List α)) (fun k => @Nat.rec (fun _ => Option (List α)) (some []) (fun _ _ => none) k) (fun hd _ ih k => @Nat.rec (fun _ => Option (List α)) (some []) (fun k _ => @Option.rec (List α) (fun _ => Option (List α)) none (fun r => some (hd :: r)) (ih k)) k) l
theorem dropO_eq {α : Type} (l : List α) (k : Nat) : dropO l k = if k ≤ l.length then some (l.drop k) else none := by
  induction l generalizing k with
  | nil => cases k with
    | zero => rw [if_pos (Nat.zero_le _)]; rfl
    | succ k => rw [if_neg (by simp)]; rfl
  | cons a l ih =>
    cases k with
    | zero => rw [if_pos (Nat.zero_le _)]; rfl
    | succ k => show dropO l k = _; rw [ih]; simp
theorem takeO_eq {α : Type} (l : List α) (k : Nat) : takeO l k = if k ≤ l.length then some (l.take k) else none := by
  induction l generalizing k with
  | nil => cases k with
    | zero => rw [if_pos (Nat.zero_le _)]; rfl
    | succ k => rw [if_neg (by simp)]; rfl
  | cons a l ih =>
    cases k with
    | zero => rw [if_pos (Nat.zero_le _)]; rfl
    | succ k =>
      show @Option.rec (List α) (fun _ => Option (List α)) none (fun r => some (a :: r)) (takeO l k) = _
      rw [ih]
      by_cases h : k ≤ l.length
      · rw [if_pos h, if_pos (by simpa using h)]; rfl
      · rw [if_neg h, if_neg (by simpa using h)]
section
variable [RT]
noncomputable def subR (cs : List AV) (off n : Nat) : Option (List AV) := @Option.rec (List AV) (fun _ => Option (List AV)) none (fun r => takeO r n) (dropO cs off)
theorem subR_eq (cs : List AV) (off n : Nat) : subR cs off n = subL cs off n := by
  unfold subR subL
  rw [dropO_eq]
  by_cases h : off ≤ cs.length
  · rw [if_pos h]
    show takeO (cs.drop off) n = _
    rw [takeO_eq, List.length_drop]
    by_cases k : off + n ≤ cs.length
    · rw [if_pos (by omega), leB_iff.2 k]; rfl
    · rw [if_neg (by omega)]
      cases q : leB (off + n) cs.length
      · rfl
      · exact absurd (leB_iff.1 q) k
  · rw [if_neg h]
    cases q : leB (off + n) cs.length
    · rfl
    · have := leB_iff.1 q; omega
noncomputable def splR (cs : List AV) : Nat → List AV → List AV := @List.rec AV (fun _ => Nat → List AV → List AV) (fun _ vs => vs)
  (fun hd tl ih off vs => @Nat.rec (fun _ => List AV) (@List.rec AV (fun _ => List AV) (hd :: tl) (fun v vs' _ => v :: ih 0 vs') vs) (fun k _ => hd :: ih k vs) off) cs
theorem splR_eq (cs : List AV) (off : Nat) (vs : List AV) : splR cs off vs = splice cs off vs := by
  unfold splice
  induction cs generalizing off vs with
  | nil => simp [splR]
  | cons a l ih =>
    cases off with
    | zero =>
      cases vs with
      | nil => rfl
      | cons v vs =>
        show v :: splR l 0 vs = _
        rw [ih]; simp
    | succ k =>
      show a :: splR l k vs = _
      rw [ih]
      simp [show k + 1 + vs.length = (k + vs.length) + 1 by omega]
noncomputable def getR (T : Tm) (t : Nat) : AV := @List.rec (Nat × AV) (fun _ => AV) AV.undef (fun hd _ ih => @Bool.rec (fun _ => AV) ih hd.2 (Nat.beq hd.1 t)) T
theorem getR_eq (T : Tm) (t : Nat) : getR T t = getT T t := by
  induction T with
  | nil => rfl
  | cons a l ih =>
    obtain ⟨k, v⟩ := a
    show @Bool.rec (fun _ => AV) (getR l t) v (Nat.beq k t) = bif Nat.beq k t then v else getT l t
    rw [ih]
    cases Nat.beq k t <;> rfl
noncomputable def evOR (T : Tm) (x : Operand) : AV := match x with
  | .tmp t => getR T t
  | .const v => ofConst v
  | .func f => .clo f [] []
  | .global _ => .undef
theorem evOR_eq (T : Tm) (x : Operand) : evOR T x = evO T x := by cases x <;> first | rfl | exact getR_eq ..
noncomputable def evLR (T : Tm) (l : List Operand) : List AV := @List.rec Operand (fun _ => List AV) [] (fun x _ ih => evOR T x :: ih) l
theorem evLR_eq (T : Tm) (l : List Operand) : evLR T l = evL T l := by
  induction l with
  | nil => rfl
  | cons a l ih => show evOR T a :: evLR T l = _; rw [ih, evOR_eq]; rfl
noncomputable def appR {α : Type} (x y : List α) : List α := @List.rec α (fun _ => List α) y (fun a _ ih => a :: ih) x
theorem appR_eq {α : Type} (x y : List α) : appR x y = x ++ y := by
  induction x with
  | nil => rfl
  | cons a l ih => show a :: appR l y = _; rw [ih]; rfl
noncomputable def findR (l : List (Nat × Blk)) (id : Nat) : Option Blk := @List.rec (Nat × Blk) (fun _ => Option Blk) none (fun hd _ ih => @Bool.rec (fun _ => Option Blk) ih (some hd.2) (Nat.beq hd.1 id)) l
theorem findR_eq (l : List (Nat × Blk)) (id : Nat) : findR l id = findB l id := by
  induction l with
  | nil => rfl
  | cons a l ih =>
    obtain ⟨k, v⟩ := a
    show @Bool.rec (fun _ => Option Blk) (findR l id) (some v) (Nat.beq k id) = bif Nat.beq k id then some v else findB l id
    rw [ih]
    cases Nat.beq k id <;> rfl
noncomputable def setR (l : List (Nat × Blk)) (id : Nat) (b : Blk) : List (Nat × Blk) := @List.rec (Nat × Blk) (fun _ => List (Nat × Blk)) [] (fun hd tl ih => @Bool.rec (fun _ => List (Nat × Blk)) (hd :: ih) ((hd.1, b) :: tl) (Nat.beq hd.1 id)) l
theorem setR_eq (l : List (Nat × Blk)) (id : Nat) (b : Blk) : setR l id b = setB l id b := by
  induction l with
  | nil => rfl
  | cons a l ih =>
    obtain ⟨k, v⟩ := a
    show @Bool.rec (fun _ => List (Nat × Blk)) ((k, v) :: setR l id b) ((k, b) :: l) (Nat.beq k id) = bif Nat.beq k id then (k, b) :: l else (k, v) :: setB l id b
    rw [ih]
    cases Nat.beq k id <;> rfl
noncomputable def delR (l : List (Nat × Blk)) (id : Nat) : List (Nat × Blk) := @List.rec (Nat × Blk) (fun _ => List (Nat × Blk)) [] (fun hd _ ih => @Bool.rec (fun _ => List (Nat × Blk)) (hd :: ih) ih (Nat.beq hd.1 id)) l
theorem delR_eq (l : List (Nat × Blk)) (id : Nat) : delR l id = delB l id := by
  induction l with
  | nil => rfl
  | cons a l ih =>
    obtain ⟨k, v⟩ := a
    show @Bool.rec (fun _ => List (Nat × Blk)) ((k, v) :: delR l id) (delR l id) (Nat.beq k id) = bif Nat.beq k id then delB l id else (k, v) :: delB l id
    rw [ih]
    cases Nat.beq k id <;> rfl
noncomputable def hasR (l : List Nat) (n : Nat) : Bool := @List.rec Nat (fun _ => Bool) false (fun k _ ih => @Bool.rec (fun _ => Bool) ih true (Nat.beq k n)) l
theorem hasR_eq (l : List Nat) (n : Nat) : hasR l n = hasN l n := by
  induction l with
  | nil => rfl
  | cons a l ih =>
    show @Bool.rec (fun _ => Bool) (hasR l n) true (Nat.beq a n) = bif Nat.beq a n then true else hasN l n
    rw [ih]
    cases Nat.beq a n <;> rfl
noncomputable def meetR (a b : List Nat) : Bool := @List.rec Nat (fun _ => Bool) false (fun x _ ih => @Bool.rec (fun _ => Bool) ih true (hasR b x)) a
theorem meetR_eq (a b : List Nat) : meetR a b = meet a b := by
  unfold meet
  induction a with
  | nil => rfl
  | cons x l ih =>
    show @Bool.rec (fun _ => Bool) (meetR l b) true (hasR b x) = _
    rw [ih, hasR_eq, List.any_cons]
    cases hasN b x <;> rfl
noncomputable def clashR (a b : Foot) : Bool := @Bool.rec (fun _ => Bool) (@Bool.rec (fun _ => Bool) (meetR a.wr b.wr) true (meetR a.rd b.wr)) true (meetR a.wr b.rd)
theorem clashR_eq (a b : Foot) : clashR a b = clash a b := by
  unfold clashR clash
  rw [meetR_eq, meetR_eq, meetR_eq]
  cases meet a.wr b.rd <;> cases meet a.rd b.wr <;> rfl
noncomputable def apartR (ops : List Oper) (j : Nat) (f : Foot) (l : List Foot) : Nat → Bool := @List.rec Foot (fun _ => Nat → Bool) (fun _ => true) (fun g _ ih i => @Bool.rec (fun _ => Bool) (ih (i + 1)) (@Bool.rec (fun _ => Bool) false (ih (i + 1)) (isAhead ops ops.length i j)) (clashR g f)) l
theorem apartR_eq (ops : List Oper) (j : Nat) (f : Foot) (l : List Foot) (i : Nat) : apartR ops j f l i = apartP ops j f i l := by
  induction l generalizing i with
  | nil => rfl
  | cons g l ih =>
    show @Bool.rec (fun _ => Bool) (apartR ops j f l (i + 1)) (@Bool.rec (fun _ => Bool) false (apartR ops j f l (i + 1)) (isAhead ops ops.length i j)) (clashR g f) = _
    rw [ih, clashR_eq, apartP]
    cases clash g f <;> cases isAhead ops ops.length i j <;> rfl
noncomputable def flatR (l : List AV) : Bool := @List.rec AV (fun _ => Bool) true (fun v _ ih => @Bool.rec (fun _ => Bool) false ih (flatV v)) l
theorem flatR_eq (l : List AV) : flatR l = flatL l := by
  induction l with
  | nil => rfl
  | cons v l ih =>
    show @Bool.rec (fun _ => Bool) false (flatR l) (flatV v) = (flatV v && flatL l)
    rw [ih]
    cases flatV v <;> rfl
noncomputable def fillR (flds : List (Nat × Nat)) (T : Tm) (l : List (Nat × Operand)) : List AV → Option (List AV) := @List.rec (Nat × Operand) (fun _ => List AV → Option (List AV)) (fun cs => some cs)
  (fun p _ ih cs => match nthR flds p.1, cellsOf (evOR T p.2) with
    | some (off, n), some vs => bif Nat.beq (lenR vs) n && leB (off + n) (lenR cs) then ih (splR cs off vs) else none
    | _, _ => none) l
theorem fillR_eq (flds : List (Nat × Nat)) (T : Tm) (l : List (Nat × Operand)) (cs : List AV) : fillR flds T l cs = fillP flds T l cs := by
  induction l generalizing cs with
  | nil => rfl
  | cons p l ih =>
    obtain ⟨i, x⟩ := p
    show (match nthR flds i, cellsOf (evOR T x) with
    | some (off, n), some vs => bif Nat.beq (lenR vs) n && leB (off + n) (lenR cs) then fillR flds T l (splR cs off vs) else none
    | _, _ => none) = _
    rw [fillP, nthR_eq, evOR_eq]
    simp only [lenR_eq, splR_eq, ih]
    rfl

abbrev KT (α : Type) := α → Hp → Foot → WT → Tr
abbrev RunT (α : Type) := Bool → Hp → Foot → WT → KT α → Tr
section
noncomputable def rIte {α : Type} (b : Bool) (p q : RunT α) : RunT α := fun tr h f w K => iteT b w (fun w => p tr h f w K) (fun w => q tr h f w K)
noncomputable def rOpt {α β : Type} (x : Option β) (k : β → RunT α) : RunT α := fun tr h f w K => @Option.rec β (fun _ => Tr) .no (fun b => k b tr h f w K) x
noncomputable def rAlt {α β γ : Type} (x : β ⊕ γ) (k : β → RunT α) (l : γ → RunT α) : RunT α := fun tr h f w K => @Sum.rec β γ (fun _ => Tr) (fun b => k b tr h f w K) (fun c => l c tr h f w K) x
noncomputable def rGet {α : Type} (id : Nat) (k : Blk → RunT α) : RunT α := fun tr h f w K => @Option.rec Blk (fun _ => Tr) .no (fun b => k b tr h (addR tr f id) w K) (findR h.blks id)
noncomputable def rPut {α : Type} (id : Nat) (b : Blk) (k : RunT α) : RunT α := fun tr h f w K => @Option.rec Blk (fun _ => Tr) .no (fun _ => k tr { h with blks := setR h.blks id b } (addW tr f id) w K) (findR h.blks id)
noncomputable def rNew {α : Type} (b : Blk) (k : Nat → RunT α) : RunT α := fun tr h f w K => k h.c tr { blks := (h.c, b) :: h.blks, c := h.c + 1 } (addW tr f h.c) w K
noncomputable def rDel {α : Type} (id : Nat) (k : RunT α) : RunT α := fun tr h f w K => @Option.rec Blk (fun _ => Tr) .no (fun _ => k tr { h with blks := delR h.blks id } (addW tr f id) w K) (findR h.blks id)
noncomputable def rSeek {α : Type} (n : Nat) (k : RunT α) : RunT α := fun tr h f w K => @Bool.rec (fun _ => Tr) .no (k tr { h with c := n } f w K) (leB h.c n)
noncomputable def rTrace {α β : Type} (p : RunT β) (k : β → Foot → RunT α) : RunT α := fun tr h f w K => p true h { rd := [], wr := [] } w fun b h' f' w' => k b f' tr h' { rd := f'.rd ++ f.rd, wr := f'.wr ++ f.wr } w' K
noncomputable def rNorm {α : Type} (base : Nat) (keep : List Nat) (T : Tm) (k : Tm → RunT α) : RunT α := fun tr h f w K =>
    bif tr then .no else
    let order := normOrder base keep T h.blks
    bif nodupN order && leB base h.c then k (keepT (renOf base order) T keep) tr { blks := extB base (renOf base order) h.blks ++ newB (renOf base order) h.blks base order, c := base + order.length } f w K
    else .no
noncomputable def rGlob {α β : Type} (g : Hp → Option (β × Hp)) (k : β → RunT α) : RunT α := fun tr h f w K => bif tr then .no else @Option.rec (β × Hp) (fun _ => Tr) .no (fun r => k r.1 tr r.2 f w K) (g h)

noncomputable def runR {α : Type} (p : Prog α) : RunT α :=
  @Prog.rec _ (fun {α} _ => RunT α)
    (fun a _ h f w K => K a h f w)
    (fun _ _ _ _ _ => .no)
    (fun b _ _ ihp ihq => rIte b ihp ihq)
    (fun x _ ih => rOpt x ih)
    (fun x _ _ ihk ihl => rAlt x ihk ihl)
    (fun id _ ih => rGet id ih)
    (fun id b _ ih => rPut id b ih)
    (fun b _ ih => rNew b ih)
    (fun id _ ih => rDel id ih)
    (fun _ ih tr h f w K => ih h.c tr h f w K)
    (fun n _ ih => rSeek n ih)
    (fun _ _ ihp ihk => rTrace ihp ihk)
    (fun base keep T _ ih => rNorm base keep T ih)
    (fun g _ ih => rGlob g ih) _ p

theorem runR_sound {α : Type} (p : Prog α) : ∀ (tr : Bool) (h : Hp) (f : Foot) (w : WT) (K : KT α) (K' : α → Hp → Foot → Option (AV × Hp)) (r : AV × Hp),
    (runR p tr h f w K).sem = some r → (∀ a h f w, (K a h f w).sem = some r → K' a h f = some r) → run p tr h f K' = some r := by
  induction p with
  | ret a => intro tr h f w K K' r e hk; exact hk _ _ _ _ e
  | fail => intro tr h f w K K' r e; cases e
  | ite b p q ihp ihq =>
    intro tr h f w K K' r e hk
    change (iteT b w (fun w => runR p tr h f w K) (fun w => runR q tr h f w K)).sem = some r at e
    rcases iteT_sem e with ⟨rfl, w', e⟩ | ⟨rfl, w', e⟩
    · exact ihp tr h f w' K K' r e hk
    · exact ihq tr h f w' K K' r e hk
  | opt x k ih =>
    intro tr h f w K K' r e hk
    cases x with
    | none => cases e
    | some b => exact ih b tr h f w K K' r e hk
  | alt x k l ihk ihl =>
    intro tr h f w K K' r e hk
    cases x with
    | inl b => exact ihk b tr h f w K K' r e hk
    | inr b => exact ihl b tr h f w K K' r e hk
  | get id k ih =>
    intro tr h f w K K' r e hk
    change (@Option.rec Blk (fun _ => Tr) .no (fun b => runR (k b) tr h (addR tr f id) w K) (findR h.blks id)).sem = some r at e
    rw [findR_eq] at e
    simp only [run]
    cases hb : findB h.blks id with
    | none => rw [hb] at e; cases e
    | some b => rw [hb] at e; exact ih b _ _ _ _ K K' r e hk
  | put id b k ih =>
    intro tr h f w K K' r e hk
    change (@Option.rec Blk (fun _ => Tr) .no (fun _ => runR k tr { h with blks := setR h.blks id b } (addW tr f id) w K) (findR h.blks id)).sem = some r at e
    rw [findR_eq, setR_eq] at e
    simp only [run]
    cases hb : findB h.blks id with
    | none => rw [hb] at e; cases e
    | some x => rw [hb] at e; exact ih _ _ _ _ K K' r e hk
  | new b k ih => intro tr h f w K K' r e hk; exact ih _ _ _ _ _ K K' r e hk
  | del id k ih =>
    intro tr h f w K K' r e hk
    change (@Option.rec Blk (fun _ => Tr) .no (fun _ => runR k tr { h with blks := delR h.blks id } (addW tr f id) w K) (findR h.blks id)).sem = some r at e
    rw [findR_eq, delR_eq] at e
    simp only [run]
    cases hb : findB h.blks id with
    | none => rw [hb] at e; cases e
    | some x => rw [hb] at e; exact ih _ _ _ _ K K' r e hk
  | ctr k ih => intro tr h f w K K' r e hk; exact ih _ _ _ _ _ K K' r e hk
  | seek n k ih =>
    intro tr h f w K K' r e hk
    change (@Bool.rec (fun _ => Tr) .no (runR k tr { h with c := n } f w K) (leB h.c n)).sem = some r at e
    simp only [run]
    cases hl : leB h.c n <;> rw [hl] at e
    · cases e
    · exact ih _ _ _ _ K K' r e hk
  | trace p k ihp ihk =>
    intro tr h f w K K' r e hk
    simp only [run]
    refine ihp true h _ w _ _ r e fun a h1 f1 w1 e1 => ?_
    exact ihk a f1 tr h1 _ w1 K K' r e1 hk
  | norm base keep T k ih =>
    intro tr h f w K K' r e hk
    change (bif tr then Tr.no else bif nodupN (normOrder base keep T h.blks) && leB base h.c then runR (k (keepT (renOf base (normOrder base keep T h.blks)) T keep)) tr { blks := extB base (renOf base (normOrder base keep T h.blks)) h.blks ++ newB (renOf base (normOrder base keep T h.blks)) h.blks base (normOrder base keep T h.blks), c := base + (normOrder base keep T h.blks).length } f w K else Tr.no).sem = some r at e
    simp only [run]
    cases tr
    · simp only [cond_false] at e ⊢
      cases hl : (nodupN (normOrder base keep T h.blks) && leB base h.c) <;> rw [hl] at e
      · cases e
      · simp only [cond_true] at e ⊢; exact ih _ _ _ _ _ K K' r e hk
    · cases e
  | glob g k ih =>
    intro tr h f w K K' r e hk
    change (bif tr then Tr.no else @Option.rec _ (fun _ => Tr) .no (fun r => runR (k r.1) tr r.2 f w K) (g h)).sem = some r at e
    simp only [run]
    cases tr
    · simp only [cond_false] at e ⊢
      cases hg : g h with
      | none => rw [hg] at e; cases e
      | some x => rw [hg] at e; exact ih _ _ _ _ _ K K' r e hk
    · cases e
end
end
end Go.Proofs.YtmjbedjnojcmfaaDoor.Ex

namespace Go.Proofs.YtmjbedjnojcmfaaDoor.Ex
set_option linter.unusedSectionVars false
set_option linter.unusedVariables false
set_option linter.unusedSimpArgs false
section
variable [RT]

noncomputable def qPick (T : Tm) (c a b : Operand) : Prog AV := match evOR T c with
  | .bool v => .ite v (.ret (evOR T a)) (.ret (evOR T b))
  | _ => .fail
noncomputable def qAlloc (ti : TypeId → Option TInfo) (t : TypeId) : Prog AV := .opt (ti t) fun i => .new (.box (zcells i.ty)) fun id => .ret (.ptr id 0)
noncomputable def qBox (T : Tm) (x : Operand) : Prog AV := .opt (cellsOf (evOR T x)) fun cs => .new (.box cs) fun id => .ret (.ptr id 0)
noncomputable def qFieldAddr (ti : TypeId → Option TInfo) (T : Tm) (s : TypeId) (x : Operand) (f : Nat) : Prog AV := .opt (ti s) fun i => .opt (nthR i.flds f) fun p => bif Nat.beq p.2 0 || !isSt i.ty then .fail else match evOR T x with
    | .ptr id off => .ret (.ptr id (off + p.1))
    | .view cs off => .ret (.view cs (off + p.1))
    | .eptr id sz j off => .ret (.eptr id sz j (off + p.1))
    | _ => .fail
noncomputable def qField (ti : TypeId → Option TInfo) (T : Tm) (t : TypeId) (x : Operand) (f : Nat) : Prog AV := .opt (ti t) fun i => match i.ty, evOR T x with
    | .st g, .agg cs => .opt (fldTy 0 g f) fun p => .opt (subR cs p.1 p.2.size) fun ds => .ret (pack p.2 ds)
    | _, _ => .fail
noncomputable def qUn (T : Tm) (op : UnOp) (x : Operand) : Prog AV := match op, evOR T x with
    | .not, .bool b => .ret (.bool (!b))
    | .neg, .int k n => .ret (.int k (k.wrap (0 - n)))
    | _, _ => .fail
noncomputable def qConvert (ti : TypeId → Option TInfo) (T : Tm) (src dst : TypeId) (x : Operand) : Prog AV := .opt (ti src) fun i => .opt (ti dst) fun j => match j.ty, evOR T x with
    | .int k, .int _ n => .ret (.int k (k.wrap n))
    | .str, .str s => .ret (.str s)
    | .str, y => bif isBy i.ty then content y (.int .u8) fun l => .ret (.str (bytesOf l)) else .fail
    | _, _ => .fail
noncomputable def qBuild (ti : TypeId → Option TInfo) (T : Tm) (t : TypeId) (ps : Array (Nat × Operand)) : Prog AV := .opt (ti t) fun i => bif isSt i.ty then .opt (fillR i.flds T ps.toList (zcells i.ty)) fun cs => .ret (.agg cs) else .fail
noncomputable def qBuildSlice (vr : Bool) (ti : TypeId → Option TInfo) (T : Tm) (t : TypeId) (n : Nat) (ps : Array (Nat × Operand)) : Prog AV := .opt (ti t) fun i => .opt (ti i.elem) fun _ => .opt (slTy i.ty) fun e => bif Nat.beq ps.toList.length n && leB (n * (eTy e).size) 65536 then
      bif needV T ps.toList && vr then (bif leB 1 (n * (eTy e).size) then .opt (cellsV T (eTy e).size 0 ps.toList) fun cs => .new (.box cs) fun id => .ret (.vsl e id (eTy e).size n) else .fail)
      else elemsP e T 0 ps.toList fun l => .new (.row e l) fun id => .ret (.row id)
    else .fail
noncomputable def qMakeSlice (ti : TypeId → Option TInfo) (T : Tm) (t : TypeId) (n c : Operand) : Prog AV := .opt (ti t) fun i => .opt (ti i.elem) fun ie => .opt (slTy i.ty) fun e => match evOR T n, evOR T c with
    | .int .i64 a, .int .i64 b => .ite (decide (0 ≤ a ∧ a = b ∧ a.toNat * (ie.bytes + 1) ≤ lim)) (.opt (zeroD e) fun z => .new (.row e (List.replicate a.toNat z)) fun id => .ret (.row id)) .fail
    | _, _ => .fail
noncomputable def qSlice (ti : TypeId → Option TInfo) (T : Tm) (t : TypeId) (x : Operand) (lo hi mx : Option Operand) : Prog AV := .opt (ti t) fun i => match mx with
    | some m => bif isSl i.ty && isSlV (evOR T x) && isZ (match lo with | some y => evOR T y | none => AV.int .i64 0) && isZ (match hi with | some y => evOR T y | none => AV.undef) && isZ (evOR T m) then .opt (ti i.elem) fun _ => .ret .nil else .fail
    | none =>
      match evOR T x, (match lo with | some y => evOR T y | none => AV.int .i64 0) with
      | .sl e s, .int _ a => bif isSl i.ty then .opt (ti i.elem) fun ie => bif Nat.beq ie.ty.size (eTy e).size then
        match (match hi with | some y => evOR T y | none => AV.int .i64 (s.length : Nat)) with
        | .int _ b => .ite (decide (0 ≤ a ∧ a ≤ b ∧ b ≤ (s.length : Nat))) (.ret (.sl e ((s.take b.toNat).drop a.toNat))) .fail
        | _ => .fail
        else .fail else .fail
      | .row id, .int _ a => bif isSl i.ty then .opt (ti i.elem) fun ie => .get id fun
          | .row e l => bif Nat.beq ie.ty.size (eTy e).size then
            match (match hi with | some y => evOR T y | none => AV.int .i64 (l.length : Nat)) with
            | .int _ b => .ite (decide (0 ≤ a ∧ a ≤ b ∧ b ≤ (l.length : Nat))) (.ret (.sub id (eTy e).size a.toNat b.toNat)) .fail
            | _ => .fail
            else .fail
          | .box _ => .fail
        else .fail
      | .str s, .int _ a => bif isStr i.ty then
        match (match hi with | some y => evOR T y | none => AV.int .i64 (s.size : Nat)) with
        | .int _ b => .ite (decide (0 ≤ a ∧ a ≤ b ∧ b ≤ (s.size : Nat))) (.ret (.str (s.extract a.toNat b.toNat))) .fail
        | _ => .fail
        else .fail
      | _, _ => .fail
noncomputable def qExtract (T : Tm) (t : Operand) (i : Nat) : Prog AV := match evOR T t with
    | .tup vs => .opt (nthR vs i) .ret
    | _ => .fail
noncomputable def qMakeFunc (T : Tm) (fn : Fn) (first caps : Array Operand) : Prog AV := match fn with
    | .func f => .ret (.clo f (evLR T first.toList) (evLR T caps.toList))
    | _ => .fail
noncomputable def qNilCheck (T : Tm) (x : Operand) : Prog AV := match evOR T x with
    | .ptr id off => .ret (.ptr id off)
    | .view cs off => .ret (.view cs off)
    | .eptr id sz j off => .ret (.eptr id sz j off)
    | .clo f a b => .ret (.clo f a b)
    | _ => .fail

noncomputable def qContent (x : AV) (e : Ty) (k : List (D e) → Prog AV) : Prog AV :=
  match x with
  | .nil => k []
  | .sl e' l => .opt (castL e' e l) k
  | .row id => .get id fun
    | .row e' l => .opt (castL e' e l) k
    | .box _ => .fail
  | .sub id sz lo hi => .get id fun
    | .row e' l => bif Nat.beq sz (eTy e').size then .opt (castL e' e ((l.take hi).drop lo)) k else .fail
    | .box _ => .fail
  | _ => .fail
noncomputable def qAppend (ie : TInfo) (e : Ty) (s : AV) (l' : List (D e)) : Prog AV :=
  match s with
  | .nil => .ite (decide ((0 + lenR l' + 1) * ie.bytes ≤ lim)) (.new (.row e l') fun id => .ret (.row id)) .fail
  | .row id => .get id fun
    | .row e1 l1 => .opt (castL e1 e l1) fun l => .ite (decide ((lenR l + lenR l' + 1) * ie.bytes ≤ lim)) (.del id (.new (.row e (appR l l')) fun id' => .ret (.row id'))) .fail
    | .box _ => .fail
  | _ => .fail
noncomputable def qLen (τ : Ty) (x : AV) : Prog AV :=
  match x with
  | .nil => bif isSl τ then .ret (.int .i64 0) else .fail
  | .sl _ l => bif isSl τ then .ret (.int .i64 (lenR l : Nat)) else .fail
  | .row id => bif isSl τ then .get id fun
    | .row _ l => .ret (.int .i64 (lenR l : Nat))
    | .box _ => .fail
    else .fail
  | .vsl _ _ _ n => bif isSl τ then .ret (.int .i64 (n : Nat)) else .fail
  | .str s => bif isStr τ then .ret (.int .i64 (s.size : Nat)) else .fail
  | _ => .fail
noncomputable def qBuiltin (ti : TypeId → Option TInfo) (b : Builtin) (aT : List TypeId) (args : List AV) : Prog AV :=
  match b, aT, args with
  | .len, [t], [x] => .opt (ti t) fun i => qLen i.ty x
  | .max, _, .int k a :: r => .opt (foldI (fun x y => if y > x then y else x) k a r) .ret
  | .min, _, .int k a :: r => .opt (foldI (fun x y => if y < x then y else x) k a r) .ret
  | .append, [t, t'], [s, x] => .opt (ti t) fun i => .opt (ti i.elem) fun ie => .opt (slTy i.ty) fun e =>
    bif Nat.beq t t' && !Nat.beq ie.bytes 0 then qContent x e fun l' => qAppend ie e s l' else .fail
  | .clear, [t], [.sub id sz lo hi] => .opt (ti t) fun i => .opt (slTy i.ty) fun e => clearP e id sz lo hi
  | _, _, _ => .fail
theorem qLen_eq (τ : Ty) (x : AV) : qLen τ x = lenP τ x := by
  cases x <;> first | rfl | (unfold qLen lenP; simp only [lenR_eq]; rfl) | (unfold qLen lenP; simp only [lenR_eq])
theorem qAppend_eq (ie : TInfo) (e : Ty) (s : AV) (l' : List (D e)) : qAppend ie e s l' = appendP ie e s l' := by
  cases s <;> first | rfl | (unfold qAppend appendP; simp only [lenR_eq, appR_eq]; rfl) | (unfold qAppend appendP; simp only [lenR_eq, appR_eq])
theorem qBuiltin_eq (ti : TypeId → Option TInfo) (b : Builtin) (aT : List TypeId) (args : List AV) : qBuiltin ti b aT args = builtinP ti b aT args := by
  unfold qBuiltin builtinP
  simp only [qLen_eq, qAppend_eq]
  rfl


def Sm {α : Type} (t : RunT α) (p : Prog α) : Prop := ∀ (tr : Bool) (h : Hp) (f : Foot) (w : WT) (K : KT α) (K' : α → Hp → Foot → Option (AV × Hp)) (r : AV × Hp),
    (t tr h f w K).sem = some r → (∀ a h f w, (K a h f w).sem = some r → K' a h f = some r) → run p tr h f K' = some r
theorem Sm.run {α : Type} (p : Prog α) : Sm (runR p) p := runR_sound p
theorem Sm.no {α : Type} (p : Prog α) : Sm (fun _ _ _ _ _ => .no) p := fun _ _ _ _ _ _ _ e _ => by cases e
theorem Sm.bind {α β : Type} {t : RunT α} {p : Prog α} {u : α → RunT β} {q : α → Prog β} (hp : Sm t p) (hq : ∀ a, Sm (u a) (q a)) : Sm (fun tr h f w K => t tr h f w fun a h f w => u a tr h f w K) (p.bind q) := by
  intro tr h f w K K' r e hk
  rw [run_bind]
  exact hp tr h f w _ _ r e fun a h f w e => hq a tr h f w K K' r e hk

theorem Sm.put {t : RunT AV} {p : Prog AV} (hp : Sm t p) (g : AV → Tm) : Sm (fun tr h f w K => t tr h f w fun v h f w => K (g v) h f w) (p.bind fun v => .ret (g v)) :=
  hp.bind (u := fun v tr h f w K => K (g v) h f w) fun v tr h f w K K' r e hk => hk _ _ _ _ e

end
end Go.Proofs.YtmjbedjnojcmfaaDoor.Ex

