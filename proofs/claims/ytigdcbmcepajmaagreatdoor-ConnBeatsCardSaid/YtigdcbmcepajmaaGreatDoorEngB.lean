/- The engine: each operation does what the executor says of it. -/
import Derived.Test.YtigdcbmcepajmaaGreatDoorEngA
import Derived.Laws.Tables
import Derived.Great.BuildSlice
import Derived.Laws.BytesString
import Derived.Lib.UnsafeStr
import Derived.Lib.Builder
import Derived.KernelRfl
/- Writing maps. -/
namespace Go.Abs
variable {V : Val} {N : Nat} {w0 w w' : World} {ρ : Rho} {st st' : St} {E : Env}

/- what is asked of an operation without a value -/
def URes (E : Env) (V : Val) (N : Nat) (w0 : World) (ρ : Rho) (st : St) (w : World) (s : Sem Unit) : OpRes → Prop
  | .skip st' => ∃ w' ρ', s.run E.P w = .ok () w' ∧ Rel V N w0 ρ' st' w' ∧ Ext ρ st w ρ' st' w' ∧ st'.pc = st.pc
  | .split _ | .bad _ => True
  | _ => False

theorem Rel.same (R : Rel V N w0 ρ st w) (hh : w'.heap = w.heap) (ht : w'.tape = w.tape) (ho : w'.os = w.os) (hout : w'.output = w.output) : Rel V N w0 ρ st w' where
  size := by rw [hh]; exact R.size
  fix := fun b hb => by rw [hh]; exact R.fix b hb
  tape := ht.trans R.tape
  os := ho.trans R.os
  output := hout.trans R.output
  fresh := R.fresh
  inb := by rw [hh]; exact R.inb
  obj := fun l o r h hr => let ⟨h2, h3⟩ := R.obj l o r h hr; ⟨h2.frame (Rho.le_refl ρ) (by rw [hh]), h3⟩
  sep := R.sep
  grp := R.grp
  ver := R.ver
  grp0 := R.grp0
  grpn := R.grpn
  hpn := R.hpn
  deep := R.deep
  deepg := R.deepg
  small := R.small

theorem Ext.same (hh : w'.heap = w.heap) : Ext ρ st w ρ st w' := ⟨Rho.le_refl ρ, by rw [hh]; exact Nat.le_refl _, Nat.le_refl _, fun _ _ => rfl, fun b _ hw => ⟨by rw [hh], hw⟩⟩

/-! ### What is equal is one -/
theorem eqS_conc (hE : EnvOK E V) (hpc : PcOK V st.pc) {t : TypeId} {a b : AV} {ca cb : Value} (ha : conc V ρ a = some ca) (hb : conc V ρ b = some cb) (h : eqS E st t a b = .inl (some true)) : ca = cb := by
  unfold eqS at h
  split at h
  · rename_i k0 k x k' y hu
    simp only [conc, Option.some.injEq] at ha hb; subst ha; subst hb
    cases hk : decide (k = k') <;> rw [hk] at h <;> simp only [cond, Sum.inl.injEq, reduceCtorEq] at h
    have hk : k = k' := by simpa using hk
    subst hk
    split at h
    · rename_i r' hd
      have := dec_sound hpc _ _ hd
      rw [mkEq_B hE] at this
      simp only [Sum.inl.injEq, Option.some.injEq] at h; subst h
      rw [of_decide_eq_true this]
    · cases h
  · simp only [conc, Option.some.injEq] at ha hb; subst ha; subst hb
    simp only [Sum.inl.injEq, Option.some.injEq, beq_iff_eq] at h; subst h; rfl
  · rename_i x y hu
    simp only [conc] at ha hb
    split at ha
    · rename_i hx
      split at hb
      · rename_i hy
        simp only [Option.some.injEq] at ha hb; subst ha; subst hb
        have := strEq_sound hE hpc x y hx hy true h
        have : bytesL V x = bytesL V y := by simpa using this
        unfold concStr
        unfold bytesL at this
        rw [this]
      · cases hb
    · cases ha
  · cases h

theorem eqItems_conc (hE : EnvOK E V) (hpc : PcOK V st.pc) : ∀ (ts : List TypeId) (x y : List AV) (cx cy : List Value), concs V ρ x = some cx → concs V ρ y = some cy → eqItemsA E st ts x y = .inl (some true) → cx = cy
  | [], [], [], cx, cy, hx, hy, _ => by simp only [concs, Option.some.injEq] at hx hy; subst hx; subst hy; rfl
  | t :: ts, a :: x, b :: y, cx, cy, hx, hy, h => by
    simp only [concs, Option.bind_eq_some_iff, Option.map_eq_some_iff] at hx hy
    obtain ⟨ca, hca, cx', hcx, rfl⟩ := hx
    obtain ⟨cb, hcb, cy', hcy, rfl⟩ := hy
    simp only [eqItemsA] at h
    split at h
    · rename_i he
      rw [eqS_conc hE hpc hca hcb he, eqItems_conc hE hpc ts x y cx' cy' hcx hcy h]
    · rename_i he; exact absurd h he
  | [], [], _ :: _, _, _, _, _, h => by simp [eqItemsA] at h
  | [], _ :: _, _, _, _, _, _, h => by simp [eqItemsA] at h
  | _ :: _, [], _, _, _, _, _, h => by simp [eqItemsA] at h
  | _ :: _, _ :: _, [], _, _, _, _, h => by simp [eqItemsA] at h

theorem eqT_conc (hE : EnvOK E V) (hpc : PcOK V st.pc) {t : TypeId} {a b : AV} {ca cb : Value} (ha : conc V ρ a = some ca) (hb : conc V ρ b = some cb) (h : eqT E st t a b = .inl (some true)) : ca = cb := by
  unfold eqT at h
  cases hs : scalar E t <;> rw [hs] at h <;> simp only [cond] at h
  · split at h
    · rename_i ts x y hf
      obtain ⟨cx, hcx, rfl⟩ := concAgg ha
      obtain ⟨cy, hcy, rfl⟩ := concAgg hb
      cases hl : (Nat.beq x.length ts.length && Nat.beq y.length ts.length) <;> rw [hl] at h <;> simp only [cond, Sum.inl.injEq, reduceCtorEq] at h
      rw [eqItems_conc hE hpc ts x y cx cy hcx hcy h]
    · cases h
  · exact eqS_conc hE hpc ha hb h

theorem findKeyA_some {t : TypeId} {k : AV} : ∀ (es : List (AV × AV × Nat)) (i n : Nat) (v : AV), findKeyA E st t k es i = .inl (some (some (n, v))) → ∃ j k' b, n = i + j ∧ es[j]? = some (k', v, b) ∧ eqT E st t k k' = .inl (some true)
  | [], i, n, v, h => by simp [findKeyA] at h
  | (k', v', b) :: r, i, n, v, h => by
    simp only [findKeyA] at h
    split at h
    · rename_i he
      simp only [Sum.inl.injEq, Option.some.injEq, Prod.mk.injEq] at h
      obtain ⟨rfl, rfl⟩ := h
      exact ⟨0, k', b, rfl, rfl, he⟩
    · obtain ⟨j, k'', b', h1, h2, h3⟩ := findKeyA_some r (i + 1) n v h
      exact ⟨j + 1, k'', b', by omega, by simpa using h2, h3⟩
    · cases h
    · cases h

theorem findKeyA_none {t : TypeId} {k : AV} : ∀ (es : List (AV × AV × Nat)) (i : Nat), findKeyA E st t k es i = .inl (some none) → ∀ e ∈ es, eqT E st t k e.1 = .inl (some false)
  | [], i, h, e, he => by simp at he
  | (k', v', b) :: r, i, h, e, he => by
    simp only [findKeyA] at h
    split at h
    · simp at h
    · rename_i h0
      rcases List.mem_cons.1 he with rfl | he
      · exact h0
      · exact findKeyA_none r (i + 1) h e he
    · cases h
    · cases h

theorem concE_mem : ∀ (es : List (AV × AV × Nat)) (l : List MapEntry), concE V ρ es = some l → ∀ e ∈ l, ∃ k v, (k, v, e.born) ∈ es ∧ conc V ρ k = some e.key ∧ conc V ρ v = some e.val
  | [], l, h, e, he => by simp only [concE, Option.some.injEq] at h; subst h; simp at he
  | (k, v, b) :: r, l, h, e, he => by
    simp only [concE, Option.bind_eq_some_iff, Option.map_eq_some_iff] at h
    obtain ⟨x, hx, y, hy, u, hu, rfl⟩ := h
    rcases List.mem_cons.1 he with rfl | he
    · exact ⟨k, v, by simp, hx, hy⟩
    · obtain ⟨k', v', h1, h2, h3⟩ := concE_mem r u hu e he
      exact ⟨k', v', by simp [h1], h2, h3⟩

theorem concE_mem' : ∀ (es : List (AV × AV × Nat)) (l : List MapEntry), concE V ρ es = some l → ∀ k v b, (k, v, b) ∈ es → ∃ e ∈ l, e.born = b ∧ conc V ρ k = some e.key ∧ conc V ρ v = some e.val
  | [], l, h, k, v, b, he => by simp at he
  | (k0, v0, b0) :: r, l, h, k, v, b, he => by
    simp only [concE, Option.bind_eq_some_iff, Option.map_eq_some_iff] at h
    obtain ⟨x, hx, y, hy, u, hu, rfl⟩ := h
    rcases List.mem_cons.1 he with h' | he
    · simp only [Prod.mk.injEq] at h'; obtain ⟨rfl, rfl, rfl⟩ := h'
      exact ⟨_, List.mem_cons_self .., rfl, hx, hy⟩
    · obtain ⟨e, h1, h2⟩ := concE_mem' r u hu k v b he
      exact ⟨e, by simp [h1], h2⟩

theorem concE_modify {k v : AV} {ck cv : Value} (hk : conc V ρ k = some ck) (hv : conc V ρ v = some cv) : ∀ (es : List (AV × AV × Nat)) (l : List MapEntry) (i : Nat), concE V ρ es = some l →
    concE V ρ (modifyAt (fun e => (k, v, e.2.2)) es i) = some (l.modify i fun e => { e with key := ck, val := cv })
  | [], l, i, h => by simp only [concE, Option.some.injEq] at h; subst h; cases i <;> simp [modifyAt, concE]
  | (k', v', b) :: r, l, i, h => by
    simp only [concE, Option.bind_eq_some_iff, Option.map_eq_some_iff] at h
    obtain ⟨x, hx, y, hy, u, hu, rfl⟩ := h
    cases i with
    | zero => simp [modifyAt, concE, hk, hv, hu]
    | succ i => simp [modifyAt, concE, hx, hy, concE_modify hk hv r u i hu]

theorem concE_append {k v : AV} {ck cv : Value} (hk : conc V ρ k = some ck) (hv : conc V ρ v = some cv) (b : Nat) : ∀ (es : List (AV × AV × Nat)) (l : List MapEntry), concE V ρ es = some l → concE V ρ (es ++ [(k, v, b)]) = some (l ++ [⟨ck, cv, b⟩])
  | [], l, h => by simp only [concE, Option.some.injEq] at h; subst h; simp [concE, hk, hv]
  | (k', v', b') :: r, l, h => by
    simp only [concE, Option.bind_eq_some_iff, Option.map_eq_some_iff] at h
    obtain ⟨x, hx, y, hy, u, hu, rfl⟩ := h
    simp [concE, hx, hy, concE_append hk hv b r u hu]

theorem concE_erase : ∀ (es : List (AV × AV × Nat)) (l : List MapEntry) (i : Nat), concE V ρ es = some l → concE V ρ (es.eraseIdx i) = some (l.eraseIdx i)
  | [], l, i, h => by simp only [concE, Option.some.injEq] at h; subst h; simp [concE]
  | (k', v', b') :: r, l, i, h => by
    simp only [concE, Option.bind_eq_some_iff, Option.map_eq_some_iff] at h
    obtain ⟨x, hx, y, hy, u, hu, rfl⟩ := h
    cases i with
    | zero => simp [hu]
    | succ i => simp [concE, hx, hy, concE_erase r u i hu]

theorem run_keyThatStays {P : Program} (c : Value) (w : World) : ∃ w', (Instr.keyThatStays c c).run P w = .ok c w' ∧ w'.heap = w.heap ∧ w'.tape = w.tape ∧ w'.os = w.os ∧ w'.output = w.output := by
  unfold Instr.keyThatStays
  split
  · exact ⟨w, rfl, rfl, rfl, rfl, rfl⟩
  · simp only [ite_self]
    exact ⟨{ w with drawn := w.drawn + 1 }, rfl, rfl, rfl, rfl, rfl⟩

theorem mapUpdate_sound (hE : EnvOK E V) (hpc : PcOK V st.pc) (R : Rel V N w0 ρ st w) (t : TypeId) {m k v : AV} {cm ck cv : Value} (hm : conc V ρ m = some cm) (hk : conc V ρ k = some ck) (hv : conc V ρ v = some cv) :
    URes E V N w0 ρ st w (Instr.mapUpdate t cm ck cv) (mapUpdateA E st t m k v) := by
  unfold mapUpdateA
  split
  · rename_i key elem l hu
    cases hkt : keyT E key k
    · trivial
    obtain ⟨d, hud⟩ := keyT_und hkt
    have hck : (Instr.checkKey false 10000 key ck).run E.P w = .ok () w := checkKey_sound hkt hk false 9998 w
    simp only [conc, Option.map_eq_some_iff] at hm
    obtain ⟨r, hr, rfl⟩ := hm
    simp only [Bool.not_true, cond]
    split
    · rename_i es clock hg
      have hlive := live_of hg rfl
      obtain ⟨⟨ces, lc, h1, h2, h3, h4⟩, _⟩ := R.obj l _ _ hlive hr
      have h3 := h3 rfl
      have hgo := run_getObj (P := E.P) h1 (by simp)
      unfold onFind
      split
      · rename_i res hres
        rcases findAsking_sound hE hpc hk w es lc 0 res h2 hres with ⟨rfl, ha⟩ | ⟨j0, v0, y0, rfl, _, _, ha⟩
        · have hf : (Instr.findKey key ck ces.toList).run E.P w = .ok none w := by rw [h3, findKey_eq hud]; exact ha
          have hs := run_setObj (P := E.P) (x := .map (ces.push { key := ck, val := cv, born := clock }) (clock + 1)) h1 (by simp)
          have hup := R.updObj (o' := .map (es ++ [(k, v, clock)]) (clock + 1) false) (x := .map (ces.push { key := ck, val := cv, born := clock }) (clock + 1)) hlive rfl rfl hr
            ⟨_, lc ++ [⟨ck, cv, clock⟩], setObj_get h1, concE_append hk hv clock es lc h2, fun _ => by simp [h3], by simp [h3]⟩
          exact ⟨_, ρ, by simp only [Instr.mapUpdate, Sem.run_bind, run_und hu, Result.andThen_ok, hgo, hck, hf, hs], hup.1, hup.2, rfl⟩
        · obtain ⟨j, k', b, hj, hes, heq⟩ := findKeyA_some es 0 _ _ hres
          have hjj : j0 = j := by omega
          subst hjj
          obtain ⟨_, hget⟩ := concE_get es lc h2
          obtain ⟨x, y, hx, hy, hl⟩ := hget j0 k' v0 b hes
          have hxk := eqT_conc hE hpc hk hx heq
          have hf : (Instr.findKey key ck ces.toList).run E.P w = .ok (some (0 + j0, y0)) w := by rw [h3, findKey_eq hud]; exact ha
          have hce : ces[0 + j0]? = some ⟨ck, y, b⟩ := by
            rw [Nat.zero_add, ← Array.getElem?_toList, h3, hl, hxk]
          obtain ⟨w2, e1, e2, e3, e4, e5⟩ := run_keyThatStays (P := E.P) ck w
          have h1' : w2.heap[r.b]? = some (.map ces clock) := by rw [e2]; exact h1
          have hs := run_setObj (P := E.P) (x := .map (ces.modify (0 + j0) fun e => { e with key := ck, val := cv }) clock) h1' (by simp)
          have R2 := R.same e2 e3 e4 e5
          have hup := R2.updObj (o' := .map (modifyAt (fun e => (k, v, e.2.2)) es (0 + j0)) clock false) (x := .map (ces.modify (0 + j0) fun e => { e with key := ck, val := cv }) clock) hlive rfl rfl hr
            ⟨_, lc.modify (0 + j0) fun e => { e with key := ck, val := cv }, setObj_get h1', concE_modify hk hv es lc (0 + j0) h2, fun _ => by rw [Array.toList_modify, h3], by rw [Array.toList_modify, h3]⟩
          refine ⟨_, ρ, ?_, hup.1, (Ext.same e2).trans hup.2, rfl⟩
          simp only [Instr.mapUpdate, Sem.run_bind, run_und hu, Result.andThen_ok, hgo, hck, hf, hce, Option.map_some, Option.getD_some, e1, hs]
      · trivial
      · trivial
    · trivial
  · trivial

theorem insert_sound (hE : EnvOK E V) (hpc : PcOK V st.pc) (R : Rel V N w0 ρ st w) (t : TypeId) {m k v : AV} {cm ck cv : Value} (hm : conc V ρ m = some cm) (hk : conc V ρ k = some ck) (hv : conc V ρ v = some cv) :
    URes E V N w0 ρ st w (Instr.mapUpdate t cm ck cv) (insertA E st t m k v) := by
  unfold insertA
  split
  · rename_i key elem l hu
    cases hkt : keyT E key k
    · trivial
    obtain ⟨d, hud⟩ := keyT_und hkt
    have hck : (Instr.checkKey false 10000 key ck).run E.P w = .ok () w := checkKey_sound hkt hk false 9998 w
    simp only [conc, Option.map_eq_some_iff] at hm
    obtain ⟨r, hr, rfl⟩ := hm
    simp only [Bool.not_true, cond]
    split
    · rename_i es clock ll hg
      have hlive := live_of hg rfl
      obtain ⟨⟨ces, lc, h1, h2, h3, h4⟩, _⟩ := R.obj l _ _ hlive hr
      have hgo := run_getObj (P := E.P) h1 (by simp)
      unfold onFind
      split
      · rename_i res hres
        cases res with
        | some _ => trivial
        | none =>
          have hnone := findKeyA_none es 0 hres
          have hfalse : ∀ e ∈ ces.toList, (Op.equal key ck e.key).run E.P w = .ok false w := by
            intro e he
            have := h4.mem_iff (a := MapEntry.pair e) |>.1 (List.mem_map_of_mem he)
            obtain ⟨e', h5, h6⟩ := List.mem_map.1 this
            obtain ⟨k', v', h7, h8, _⟩ := concE_mem es lc h2 e' h5
            have hkey : e'.key = e.key := congrArg Prod.fst h6
            rw [← hkey]
            exact eqT_equal hE hpc hk h8 (hnone _ h7) w
          have hf : (Instr.findKey key ck ces.toList).run E.P w = .ok none w := by
            rw [findKey_eq hud]
            rcases asking_decided w ces.toList 0 (fun e he => ⟨false, hfalse e he⟩) with ⟨_, h7⟩ | ⟨j, e', h5, h6, _⟩
            · exact h7
            · rw [hfalse e' h5] at h6; cases h6
          have hs := run_setObj (P := E.P) (x := .map (ces.push { key := ck, val := cv, born := clock }) (clock + 1)) h1 (by simp)
          have hup := R.updObj (o' := .map (es ++ [(k, v, clock)]) (clock + 1) true) (x := .map (ces.push { key := ck, val := cv, born := clock }) (clock + 1)) hlive rfl rfl hr
            ⟨_, lc ++ [⟨ck, cv, clock⟩], setObj_get h1, concE_append hk hv clock es lc h2, (fun h => by cases h), by
              rw [Array.toList_push, List.map_append, List.map_append]; exact h4.append (List.Perm.refl _)⟩
          exact ⟨_, ρ, by simp only [Instr.mapUpdate, Sem.run_bind, run_und hu, Result.andThen_ok, hgo, hck, hf, hs], hup.1, hup.2, rfl⟩
      · trivial
      · trivial
    · trivial
  · trivial

theorem setObj_same {b : Nat} {x : Obj} (h : w.heap[b]? = some x) : (World.setObj w b x).heap = w.heap := by
  simp only [World.setObj]
  apply Array.ext_getElem?
  intro j
  rw [Array.getElem?_setIfInBounds]
  split
  · rename_i hj; subst hj; rw [h, if_pos (heap_lt h)]
  · rfl

theorem delete_sound (hE : EnvOK E V) (hpc : PcOK V st.pc) (R : Rel V N w0 ρ st w) {t : TypeId} {ts : Array TypeId} (ht : ts[0]? = some t) (tp : TypeId) {m k : AV} {cm ck : Value} (hm : conc V ρ m = some cm) (hk : conc V ρ k = some ck) :
    VRes E V N w0 ρ st w (Builtin.delete_ ts tp #[cm, ck]) (deleteA E st t m k) := by
  unfold deleteA
  split
  · rename_i key elem hu
    refine VRes.bif (fun hkt => ?_) fun _ => trivial
    have hck : (Instr.checkKey true 10000 key ck).run E.P w = .ok () w := checkKey_sound hkt hk true 9998 w
    simp only [conc, Option.some.injEq] at hm; subst hm
    refine VRes.pure R (cv := .tuple #[]) ?_ rfl
    simp only [Builtin.delete_, ht, List.getElem?_toArray, List.getElem?_cons_zero, List.getElem?_cons_succ, Sem.run_bind, run_und hu, Result.andThen_ok, hck]; rfl
  · rename_i key elem l hu
    refine VRes.bif (fun _ => trivial) fun hkt => ?_
    have hkt : keyT E key k = true := by simpa using hkt
    obtain ⟨d, hud⟩ := keyT_und hkt
    have hck : ∀ em, (Instr.checkKey em 10000 key ck).run E.P w = .ok () w := fun em => checkKey_sound hkt hk em 9998 w
    simp only [conc, Option.map_eq_some_iff] at hm
    obtain ⟨r, hr, rfl⟩ := hm
    split
    · rename_i es clock hg
      have hlive := live_of hg rfl
      obtain ⟨⟨ces, lc, h1, h2, h3, h4⟩, _⟩ := R.obj l _ _ hlive hr
      have h3 := h3 rfl
      have hgo := run_getObj (P := E.P) h1 (by simp)
      refine VRes.onFind fun res hres => ?_
      rcases findAsking_sound hE hpc hk w es lc 0 res h2 hres with ⟨rfl, ha⟩ | ⟨j0, v0, y0, rfl, _, _, ha⟩
      · have hf : (Instr.findKey key ck ces.toList).run E.P w = .ok none w := by rw [h3, findKey_eq hud]; exact ha
        have hs := run_setObj (P := E.P) (x := .map ces clock) h1 (by simp)
        have hsame := setObj_same h1
        refine ⟨_, ρ, .tuple #[], ?_, rfl, R.same hsame rfl rfl rfl, Ext.same hsame, rfl⟩
        simp only [Builtin.delete_, ht, List.getElem?_toArray, List.getElem?_cons_zero, List.getElem?_cons_succ, Sem.run_bind, run_und hu, Result.andThen_ok, hgo, hck, hf, hs]; rfl
      · have hf : (Instr.findKey key ck ces.toList).run E.P w = .ok (some (0 + j0, y0)) w := by rw [h3, findKey_eq hud]; exact ha
        have hs := run_setObj (P := E.P) (x := .map (ces.eraseIdxIfInBounds (0 + j0)) clock) h1 (by simp)
        have he : (ces.eraseIdxIfInBounds (0 + j0)).toList = lc.eraseIdx (0 + j0) := by rw [Array.toList_eraseIdxIfInBounds, h3]
        have hup := R.updObj (o' := .map (es.eraseIdx (0 + j0)) clock false) (x := .map (ces.eraseIdxIfInBounds (0 + j0)) clock) hlive rfl rfl hr
          ⟨_, lc.eraseIdx (0 + j0), setObj_get h1, concE_erase es lc (0 + j0) h2, fun _ => he, by rw [he]⟩
        refine ⟨_, ρ, .tuple #[], ?_, rfl, hup.1, hup.2, rfl⟩
        simp only [Builtin.delete_, ht, List.getElem?_toArray, List.getElem?_cons_zero, List.getElem?_cons_succ, Sem.run_bind, run_und hu, Result.andThen_ok, hgo, hck, hf, hs]; rfl
    · trivial
  · trivial

end Go.Abs

/- Iterators; new memory of one value; stores. -/
namespace Go.Abs
variable {V : Val} {N : Nat} {w0 w w' : World} {ρ : Rho} {st st' : St} {E : Env}

/-! ### New objects that are no rows -/
theorem new_obj (R : Rel V N w0 ρ st w) (hs : st.next < 1000002) {o : AObj} (ho : o.isCells = false) {x : Obj}
    (hobj : ObjRel V (ρ.upd st.next ⟨w.heap.size, 0, 0, 0⟩) (w.alloc x) ⟨w.heap.size, 0, 0, 0⟩ o) :
    Rel V N w0 (ρ.upd st.next ⟨w.heap.size, 0, 0, 0⟩) (newObj st o).2 (w.alloc x) ∧ Ext ρ st w (ρ.upd st.next ⟨w.heap.size, 0, 0, 0⟩) (newObj st o).2 (w.alloc x) ∧ (ρ.upd st.next ⟨w.heap.size, 0, 0, 0⟩) st.next = some ⟨w.heap.size, 0, 0, 0⟩ :=
  R.new hs (by cases o <;> first | rfl | cases ho) rfl hobj (fun cs m e => by subst e; cases ho)

theorem run_alloc (P : Program) (w : World) (o : Obj) : (Go.newObj o).run P w = .ok w.heap.size (w.alloc o) := rfl

theorem alloc_get (w : World) (x : Obj) : (w.alloc x).heap[w.heap.size]? = some x := by
  show (w.heap.push x)[w.heap.size]? = _
  simp

theorem concPtr0 {l : Nat} {r : Base} (h : ρ l = some r) (h0 : r.o = 0) : conc V ρ (.ptr (some (l, 0))) = some (.pointer (some ⟨r.b, 0, none⟩)) := by
  simp [conc, h, h0]

theorem range_sound (R : Rel V N w0 ρ st w) (t : TypeId) {x : AV} {cx : Value} (hx : conc V ρ x = some cx) : VRes E V N w0 ρ st w (Instr.range t cx) (rangeA E st t x) := by
  unfold rangeA
  dsimp only
  split
  · rename_i key elem hu
    simp only [conc, Option.some.injEq] at hx; subst hx
    refine VRes.bif (fun hn => ?_) fun _ => trivial
    have hn := next_lt hn
    obtain ⟨h1, h2, h3⟩ := new_obj R hn (o := .mapIter none 0 [] 0) rfl (x := .mapIter none 0 #[] 0) ⟨rfl, alloc_get w _⟩
    exact ⟨_, _, .pointer (some ⟨w.heap.size, 0, none⟩), by simp only [Instr.range, Sem.run_bind, run_und hu, Result.andThen_ok, Sem.run_pure, run_alloc], concPtr0 h3 rfl, h1, h2, rfl⟩
  · rename_i key elem m hu
    simp only [conc, Option.map_eq_some_iff] at hx
    obtain ⟨r, hr, rfl⟩ := hx
    split
    · rename_i es clock hg
      obtain ⟨⟨ces, lc, g1, g2, g3, g4⟩, _⟩ := R.obj m _ _ (live_of hg rfl) hr
      have hgo := run_getObj (P := E.P) g1 (by simp)
      refine VRes.bif (fun hn => ?_) fun _ => trivial
      have hn := next_lt hn
      have hle : Rho.le ρ (ρ.upd st.next ⟨w.heap.size, 0, 0, 0⟩) := Rho.le_upd (R.fresh _ (Nat.le_refl _))
      obtain ⟨h1, h2, h3⟩ := new_obj R hn (o := .mapIter (some m) clock [] clock) rfl (x := .mapIter (some r.b) clock #[] clock) ⟨r, hle _ _ hr, rfl, alloc_get w _⟩
      exact ⟨_, _, .pointer (some ⟨w.heap.size, 0, none⟩), by simp only [Instr.range, Sem.run_bind, run_und hu, Result.andThen_ok, hgo, Sem.run_pure, run_alloc], concPtr0 h3 rfl, h1, h2, rfl⟩
    · trivial
  · trivial

theorem concE_all (p : Nat → Bool) : ∀ (es : List (AV × AV × Nat)) (l : List MapEntry), concE V ρ es = some l → es.isEmpty = l.isEmpty ∧ es.all (fun e => p e.2.2) = l.all (fun e => p e.born)
  | [], l, h => by simp only [concE, Option.some.injEq] at h; subst h; exact ⟨rfl, rfl⟩
  | (k, v, b) :: r, l, h => by
    simp only [concE, Option.bind_eq_some_iff, Option.map_eq_some_iff] at h
    obtain ⟨x, hx, y, hy, u, hu, rfl⟩ := h
    exact ⟨rfl, by simp only [List.all_cons, (concE_all p r u hu).2]⟩

theorem concE_find (p : Nat → Bool) : ∀ (es : List (AV × AV × Nat)) (l : List MapEntry), concE V ρ es = some l → ∀ k v b, es.find? (fun e => p e.2.2) = some (k, v, b) → ∃ e, l.find? (fun e => p e.born) = some e ∧ conc V ρ k = some e.key ∧ conc V ρ v = some e.val
  | [], l, h, k, v, b, hf => by simp at hf
  | (k', v', b') :: r, l, h, k, v, b, hf => by
    simp only [concE, Option.bind_eq_some_iff, Option.map_eq_some_iff] at h
    obtain ⟨x, hx, y, hy, u, hu, rfl⟩ := h
    rw [List.find?_cons] at hf ⊢
    dsimp only at hf ⊢
    cases hp : p b' <;> rw [hp] at hf <;> dsimp only at hf ⊢
    · exact concE_find p r u hu k v b hf
    · simp only [Option.some.injEq, Prod.mk.injEq] at hf
      obtain ⟨rfl, rfl, rfl⟩ := hf
      exact ⟨_, rfl, hx, hy⟩

theorem concPtr_zero {l : Nat} {c : Value} (h : conc V ρ (.ptr (some (l, 0))) = some c) {r : Base} (hr : ρ l = some r) (h0 : r.o = 0) : c = .pointer (some ⟨r.b, 0, none⟩) := by
  simp only [conc, hr, Option.map_some, Option.some.injEq, h0] at h; exact h.symm

theorem run_next_choose {P : Program} (n : Nat) (w : World) (hn : 0 < n) : ∃ i w', (choose (.mapNext n)).run P w = .ok i w' ∧ i < n ∧ w'.heap = w.heap ∧ w'.tape = w.tape ∧ w'.os = w.os ∧ w'.output = w.output := by
  rw [run_choose]
  split
  · exact ⟨0, w, rfl, hn, rfl, rfl, rfl, rfl⟩
  · exact ⟨_, _, rfl, Nat.mod_lt _ hn, rfl, rfl, rfl, rfl⟩

theorem entry_sound (R : Rel V N w0 ρ st w) {it : AV} {cit : Value} (hit : conc V ρ it = some cit) : VRes E V N w0 ρ st w (Instr.entry cit) (entryA st it) := by
  unfold entryA
  split
  · rename_i l
    split
    · rename_i m since seen stepped hg
      obtain ⟨r, hr, _⟩ := concPtr hit
      obtain ⟨⟨rm, hrm, h0, h1⟩, _⟩ := R.obj l _ _ (live_of hg rfl) hr
      have hc := concPtr_zero hit hr h0
      subst hc
      have hgo := run_getObj (P := E.P) h1 (by simp)
      split
      · rename_i stamp es clock hs hm
        obtain ⟨⟨ces, lc, g1, g2, g3, g4⟩, _⟩ := R.obj m _ _ (live_of hm rfl) hrm
        have hgo2 := run_getObj (P := E.P) g1 (by simp)
        refine VRes.bif (fun _ => trivial) fun hck => ?_
        have hck : clock = stepped := beqt (by simpa using hck)
        subst hck
        split
        · rename_i e he
          obtain ⟨k, v, b⟩ := e
          obtain ⟨e, f1, f2, f3⟩ := concE_find (fun b => Nat.beq b stamp) es lc g2 k v b he
          refine VRes.pure R (cv := .tuple #[e.key, e.val]) ?_ (by simp [conc, concs, f2, f3])
          have hb : seen.toArray.back? = some stamp := by rw [List.back?_toArray]; exact hs
          have hfind : ces.find? (fun e => e.born == stamp) = some e := by
            have hfun : (fun e : MapEntry => e.born == stamp) = fun e => Nat.beq e.born stamp := by funext e; rw [Bool.eq_iff_iff]; simp
            rw [← Array.find?_toList, g3 rfl, hfun]; exact f1
          simp only [Instr.entry, Sem.run_bind, hgo, Result.andThen_ok, hb, hgo2, Sem.run_pure, bne_self_eq_false, Bool.false_eq_true, if_false, hfind]
        · trivial
      · trivial
    · trivial
  · trivial

theorem next_sound (R : Rel V N w0 ρ st w) {it : AV} {cit : Value} (hit : conc V ρ it = some cit) (isString : Bool) (t : TypeId) : VRes E V N w0 ρ st w (Instr.next cit isString t) (nextA st it isString) := by
  unfold nextA
  split
  · rename_i l
    split
    · rename_i since seen stepped hg
      obtain ⟨r, hr, _⟩ := concPtr hit
      obtain ⟨⟨h0, h1⟩, _⟩ := R.obj l _ _ (live_of hg rfl) hr
      have hc := concPtr_zero hit hr h0
      subst hc
      have hgo := run_getObj (P := E.P) h1 (by simp)
      refine VRes.pure R (cv := .tuple #[.bool false]) ?_ rfl
      simp only [Instr.next, Sem.run_bind, hgo, Result.andThen_ok, Sem.run_pure]
    · rename_i m since seen last hg
      have hlive := live_of hg rfl
      obtain ⟨r, hr, _⟩ := concPtr hit
      obtain ⟨⟨rm, hrm, h0, h1⟩, _⟩ := R.obj l _ _ hlive hr
      have hc := concPtr_zero hit hr h0
      subst hc
      have hgo := run_getObj (P := E.P) h1 (by simp)
      split
      · rename_i es clock hm
        obtain ⟨⟨ces, lc, g1, g2, g3, g4⟩, _⟩ := R.obj m _ _ (live_of hm rfl) hrm
        have g3 := g3 rfl
        have hgo2 := run_getObj (P := E.P) g1 (by simp)
        refine VRes.bif (fun _ => trivial) fun hall => ?_
        dsimp only
        have hcond : (!seen.toArray.isEmpty && !ces.isEmpty && ces.all (fun x => decide (x.born ≥ last))) = false := by
          obtain ⟨a1, a2⟩ := concE_all (V := V) (ρ := ρ) (fun b => Nat.ble last b) es lc g2
          rw [a1, a2] at hall
          rw [← hall, ← g3]
          congr 1
          · congr 1
            · simp
            · simp
          · rw [← Array.all_toList]
            congr 1
            funext e
            rw [Bool.eq_iff_iff]; simp
        have hcands : ∀ (old new : Array MapEntry), 0 < ((if old.isEmpty then #[none] else #[]) ++ (old ++ new).map some : Array (Option MapEntry)).size := by
          intro old new
          by_cases h : old.isEmpty = true
          · rw [if_pos h]; simp; omega
          · rw [if_neg h]
            have : 0 < old.size := by
              rcases Nat.eq_zero_or_pos old.size with h' | h'
              · exact absurd (by simpa [Array.isEmpty] using h') h
              · exact h'
            simp; omega
        obtain ⟨i, w2, c1, c2, c3, c4, c5, c6⟩ := run_next_choose (P := E.P) _ w (hcands ((ces.filter fun e => !seen.toArray.contains e.born).filter (·.born < since)) ((ces.filter fun e => !seen.toArray.contains e.born).filter (·.born ≥ since)))
        have R2 := R.same c3 c4 c5 c6
        have hci := Array.getElem?_eq_getElem c2
        have hmem := Array.mem_of_getElem? hci
        generalize hce : (((if ((ces.filter fun e => !seen.toArray.contains e.born).filter (·.born < since)).isEmpty then #[none] else #[]) ++ (((ces.filter fun e => !seen.toArray.contains e.born).filter (·.born < since)) ++ ((ces.filter fun e => !seen.toArray.contains e.born).filter (·.born ≥ since))).map some : Array (Option MapEntry))[i]) = ce at hci hmem
        rw [Array.mem_append] at hmem
        rcases hmem with hmem | hmem
        · -- over
          split at hmem
          · rename_i hold
            simp only [List.mem_toArray, List.mem_singleton] at hmem
            have hmem : ce = none := by simpa using hmem
            subst hmem
            refine ⟨.tuple [.bool (.lit false)], st, ?_, w2, ρ, .tuple #[.bool false], ?_, rfl, R2, Ext.same c3, rfl⟩
            · apply List.mem_append_left
              have : (List.filter (fun e => Nat.blt e.2.2 since) (List.filter (fun e => !seen.contains e.2.2) es)).isEmpty = true := by
                rw [List.isEmpty_iff, List.eq_nil_iff_forall_not_mem]
                rintro ⟨k, v, b⟩ he
                simp only [List.mem_filter] at he
                obtain ⟨⟨he1, he2⟩, he3⟩ := he
                obtain ⟨e, f1, f2, _⟩ := concE_mem' es lc g2 k v b he1
                have : e ∈ ((ces.filter fun e => !seen.toArray.contains e.born).filter (·.born < since)) := by
                  rw [Array.mem_filter, Array.mem_filter, ← Array.mem_toList_iff, g3]
                  refine ⟨⟨f1, ?_⟩, ?_⟩
                  · rw [f2]; simpa using he2
                  · rw [f2]; simp [Nat.blt] at he3 ⊢; omega
                rw [Array.isEmpty_iff] at hold
                rw [hold] at this
                simp at this
              rw [this]; simp
            · simp only [Instr.next, Sem.run_bind, hgo, Result.andThen_ok, hgo2, hcond, Bool.false_eq_true, if_false, Sem.run_pure, c1, hci]
          · simp at hmem
        · -- a step
          simp only [Array.mem_map, Array.mem_append, Array.mem_filter] at hmem
          obtain ⟨e, he, rfl⟩ := hmem
          have he1 : e ∈ lc ∧ (!seen.toArray.contains e.born) = true := by
            rcases he with he | he
            · exact ⟨by rw [← g3]; exact Array.mem_toList_iff.2 he.1.1, he.1.2⟩
            · exact ⟨by rw [← g3]; exact Array.mem_toList_iff.2 he.1.1, he.1.2⟩
          obtain ⟨k, v, f1, f2, f3⟩ := concE_mem es lc g2 e he1.1
          have h1' : w2.heap[r.b]? = some (.mapIter (some rm.b) since seen.toArray last) := by rw [c3]; exact h1
          have hs := run_setObj (P := E.P) (x := .mapIter (some rm.b) since (seen.toArray.push e.born) clock) h1' (by simp)
          have hup := R2.updObj (o' := .mapIter (some m) since (seen ++ [e.born]) clock) (x := .mapIter (some rm.b) since (seen.toArray.push e.born) clock) hlive rfl rfl hr
            ⟨rm, hrm, h0, by rw [setObj_get h1']; simp⟩
          refine ⟨_, _, List.mem_append_right _ (List.mem_map.2 ⟨(k, v, e.born), ?_, rfl⟩), _, ρ, .tuple #[.bool true, e.key, e.val], ?_, by simp [conc, concs, f2, f3, SB.B], hup.1, (Ext.same c3).trans hup.2, rfl⟩
          · have hin : (k, v, e.born) ∈ List.filter (fun e => !seen.contains e.2.2) es := by
              rw [List.mem_filter]; exact ⟨f1, by simpa using he1.2⟩
            rw [List.mem_append]
            rcases he with he | he
            · exact .inl (List.mem_filter.2 ⟨hin, by have := he.2; simp [Nat.blt] at this ⊢; omega⟩)
            · exact .inr (List.mem_filter.2 ⟨hin, by simpa using he.2⟩)
          · simp only [Instr.next, Sem.run_bind, hgo, Result.andThen_ok, hgo2, hcond, Bool.false_eq_true, if_false, Sem.run_pure, c1, hci, hs]
      · trivial
    · trivial
  · trivial

end Go.Abs

/- Lengths; new memory of values; values built of parts; stores. -/
namespace Go.Abs
variable {V : Val} {N : Nat} {w0 w w' : World} {ρ : Rho} {st st' : St} {E : Env}

/- what is true of the program as it stands -/
structure EnvP (E : Env) : Prop where
  mixed : E.P.follows .mixedOrders = true
  num : ∀ (f : Nat) (fn : Func), E.P.funcs[f]? = some fn → fn.name ≠ "runtime.NumGoroutine"
  fields : ∀ (t : TypeId) (fs : Array Field), und E t = some (.struct fs) → ∀ f ∈ fs.toList, ∃ i, E.P.info? f.type = some i

theorem cells_conc {v : AV} {c : Value} (h : conc V ρ v = some c) : concs V ρ v.cells = some c.cells.toList := by
  cases v with
  | agg cs =>
    obtain ⟨l, hl, rfl⟩ := concAgg h
    exact hl
  | _ =>
    have hs := conc_shape_ne h
    have hc : c.cells = #[c] := by
      cases c <;> try rfl
      obtain ⟨cs, e⟩ := hs.2.2.2.2.2 _ rfl
      cases e
    rw [hc]
    simp only [AV.cells, concs, h, Option.bind_some, Option.map_some]

theorem concs_ext : ∀ (cs : List AV) (xs : List Value), xs.length = cs.length → (∀ (i : Nat) (v : AV), cs[i]? = some v → ∃ x, conc V ρ v = some x ∧ xs[i]? = some x) → concs V ρ cs = some xs
  | [], [], _, _ => rfl
  | [], _ :: _, h, _ => by simp at h
  | _ :: _, [], h, _ => by simp at h
  | v :: cs, x :: xs, hl, h => by
    obtain ⟨y, hy, e⟩ := h 0 v rfl
    simp at e; subst e
    have := concs_ext cs xs (by simpa using hl) (fun i u hu => by simpa using h (i + 1) u (by simpa using hu))
    simp only [concs, hy, this, Option.bind_some, Option.map_some]

theorem writeN_conc {cs vs cs' : List AV} {o : Nat} {carr : Array Value} {xs : List Value} (h : writeN cs o vs = some cs') (hl : o + vs.length ≤ cs.length) (hc : concs V ρ cs = some carr.toList) (hx : concs V ρ vs = some xs) :
    concs V ρ cs' = some (putAt carr o xs).toList := by
  obtain ⟨h1, h2⟩ := writeN_get cs o vs cs' h hl
  have hl1 := concs_length _ _ hc
  have hl2 := concs_length _ _ hx
  simp only [Array.length_toList] at hl1
  refine concs_ext _ _ (by rw [Array.length_toList, size_putAt, h1, hl1]) fun i v hv => ?_
  rw [h2 i] at hv
  rw [Array.getElem?_toList, get_putAt xs carr o i (by omega), hl2]
  split at hv
  · rename_i hi
    rw [if_pos hi]
    exact concs_get vs xs hx _ v hv
  · rename_i hi
    rw [if_neg hi, ← Array.getElem?_toList]
    exact concs_get cs _ hc _ v hv

theorem fold_putAt : ∀ (xs : List Value) (cs : Array Value) (off i : Nat), (xs.zipIdx i).foldl (fun cs (c, j) => cs.setIfInBounds (off + j) c) cs = putAt cs (off + i) xs
  | [], _, _, _ => rfl
  | x :: xs, cs, off, i => by
    simp only [List.zipIdx_cons, List.foldl_cons, putAt]
    rw [fold_putAt xs _ off (i + 1)]
    rfl

theorem placeIn_sound {cs cs' : List AV} {off size : Nat} {v : AV} {c : Value} {carr : Array Value} (h : placeIn cs off v size = some cs') (hc : concs V ρ cs = some carr.toList) (hv : conc V ρ v = some c) :
    c.cells.size = size ∧ off + c.cells.size ≤ carr.size ∧ concs V ρ cs' = some (c.cells.zipIdx.foldl (fun cs (c, j) => cs.setIfInBounds (off + j) c) carr).toList := by
  unfold placeIn at h
  dsimp only at h
  have hcc := cells_conc hv
  have hl1 := concs_length _ _ hc
  have hl2 := concs_length _ _ hcc
  simp only [Array.length_toList] at hl1 hl2
  cases hb : (Nat.beq v.cells.length size && Nat.ble (off + size) cs.length) <;> rw [hb] at h <;> simp only [cond, reduceCtorEq] at h
  obtain ⟨b1, b2⟩ := bool2 hb
  have b1 := beqt b1
  have b2 := ble b2
  refine ⟨by omega, by omega, ?_⟩
  have : c.cells.zipIdx.foldl (fun cs (c, j) => cs.setIfInBounds (off + j) c) carr = putAt carr off c.cells.toList := by
    rw [← Array.foldl_toList, Array.toList_zipIdx]
    have := fold_putAt c.cells.toList carr off 0
    rw [Nat.add_zero] at this
    exact this
  rw [this]
  exact writeN_conc h (by omega) hc hcc

theorem fillS_sound (hG : GlobOK E ρ) {a : Act} {ca : Go.Act} (ha : ActRel V ρ a ca.tmps) (fs : Array Field) (places : Array (Nat × Nat)) (hp : ∀ (i : Nat) f n, fs[i]? = some f → Abs.sizeOf E f.type = some n → places[i]? = some (f.offset, n)) :
    ∀ (parts : List (Nat × Operand)) (cs cs' : List AV) (carr : Array Value), fillS E fs a cs parts = some cs' → concs V ρ cs = some carr.toList →
    ∃ carr', Instr.fill (places[·]?) carr (parts.map fun (i, x) => (i, ca.eval x)) = some carr' ∧ concs V ρ cs' = some carr'.toList
  | [], cs, cs', carr, h, hc => by simp only [fillS, Option.some.injEq] at h; subst h; exact ⟨carr, rfl, hc⟩
  | (i, x) :: r, cs, cs', carr, h, hc => by
    simp only [fillS] at h
    split at h
    · rename_i f v hf hv
      have hcv := ev_sound hG ha hv
      split at h
      · rename_i n hn
        split at h
        · rename_i cs1 h1
          obtain ⟨p1, p2, p3⟩ := placeIn_sound h1 hc hcv
          obtain ⟨carr', q1, q2⟩ := fillS_sound hG ha fs places hp r cs1 cs' _ h p3
          refine ⟨carr', ?_, q2⟩
          simp only [List.map_cons, Instr.fill, hp i f n hf hn]
          rw [if_neg (by simp; omega)]
          exact q1
        · cases h
      · cases h
    · cases h

theorem fillR_sound (hG : GlobOK E ρ) {a : Act} {ca : Go.Act} (ha : ActRel V ρ a ca.tmps) (size : Nat) :
    ∀ (parts : List (Nat × Operand)) (cs cs' : List AV) (carr : Array Value), fillR E size a cs parts = some cs' → concs V ρ cs = some carr.toList →
    ∃ carr', Instr.fill (fun i => some (i * size, size)) carr (parts.map fun (i, x) => (i, ca.eval x)) = some carr' ∧ concs V ρ cs' = some carr'.toList
  | [], cs, cs', carr, h, hc => by simp only [fillR, Option.some.injEq] at h; subst h; exact ⟨carr, rfl, hc⟩
  | (i, x) :: r, cs, cs', carr, h, hc => by
    simp only [fillR] at h
    split at h
    · rename_i v hv
      have hcv := ev_sound hG ha hv
      split at h
      · rename_i cs1 h1
        obtain ⟨p1, p2, p3⟩ := placeIn_sound h1 hc hcv
        obtain ⟨carr', q1, q2⟩ := fillR_sound hG ha size r cs1 cs' _ h p3
        refine ⟨carr', ?_, q2⟩
        simp only [List.map_cons, Instr.fill]
        rw [if_neg (by simp; omega)]
        exact q1
      · cases h
    · cases h

theorem places_some : ∀ (fs : List Field), (∀ f ∈ fs, ∃ i, E.P.info? f.type = some i) → ∃ places : List (Nat × Nat), fs.mapM (fun f => (E.P.info? f.type).map fun i => (f.offset, i.size)) = some places ∧
    ∀ (i : Nat) f n, fs[i]? = some f → Abs.sizeOf E f.type = some n → places[i]? = some (f.offset, n)
  | [], _ => ⟨[], rfl, fun i f n h => by simp at h⟩
  | f :: fs, h => by
    obtain ⟨ti, hi⟩ := h f (by simp)
    obtain ⟨places, h1, h2⟩ := places_some fs (fun g hg => h g (by simp [hg]))
    refine ⟨(f.offset, ti.size) :: places, by simp [List.mapM_cons, hi, h1], fun i g n hg hn => ?_⟩
    cases i with
    | zero =>
      simp at hg; subst hg
      simp only [Abs.sizeOf, hi, Option.map_some, Option.some.injEq] at hn
      subst hn; rfl
    | succ i => simpa using h2 i g n (by simpa using hg) hn

theorem zeroOf_info {t : TypeId} {z : AV} (h : zeroOf E t = some z) : ∃ i c, E.P.info? t = some i ∧ i.zero = some c ∧ conc V ρ z = some c := by
  simp only [zeroOf, Option.bind_eq_some_iff] at h
  obtain ⟨i, hi, c, hc, hz⟩ := h
  exact ⟨i, c, hi, hc, ofConst_sound c z hz⟩

theorem concs_agg {cs : List AV} {carr : Array Value} (h : concs V ρ cs = some carr.toList) : conc V ρ (.agg cs) = some (.agg carr) := by
  simp [conc, h]

def buildA (E : Env) (a : Act) (st : St) (t : TypeId) (parts : List (Nat × Operand)) : OpRes := (match und E t, zeroOf E t with
    | some (.struct fs), some z => (match fillS E fs a z.cells parts with | some cs => .val (.agg cs) st | none => .bad "build")
    | some (.array _ elem), some z => (match sizeOf E elem with
      | some n => (match fillR E n a z.cells parts with | some cs => .val (.agg cs) st | none => .bad "build")
      | none => .bad "build")
    | _, _ => .bad "build")

theorem build_sound (hP : EnvP E) (hG : GlobOK E ρ) (R : Rel V N w0 ρ st w) {a : Act} {ca : Go.Act} (ha : ActRel V ρ a ca.tmps) (t : TypeId) (parts : Array (Nat × Operand)) :
    VRes E V N w0 ρ st w (Instr.build t (parts.map fun (i, x) => (i, ca.eval x))) (buildA E a st t parts.toList) := by
  unfold buildA
  split
  · rename_i fs z hu hz
    obtain ⟨i, c, hi, hc, hcz⟩ := zeroOf_info (V := V) (ρ := ρ) hz
    split
    · rename_i cs hf
      obtain ⟨places, p1, p2⟩ := places_some (E := E) fs.toList (hP.fields t fs hu)
      obtain ⟨carr', q1, q2⟩ := fillS_sound hG ha fs places.toArray (fun i f n hf hn => by rw [List.getElem?_toArray]; exact p2 i f n (by rw [Array.getElem?_toList]; exact hf) hn) parts.toList z.cells cs c.cells hf (cells_conc hcz)
      refine VRes.pure R (cv := .agg carr') (run_build w t _ carr' ?_) (concs_agg q2)
      have hu' : E.P.underlying t = some (.struct fs) := (und_some hu).1
      simp only [Program.built, hi, hu', hc, p1, Array.toList_map]
      exact q1
    · trivial
  · rename_i n elem z hu hz
    obtain ⟨i, c, hi, hc, hcz⟩ := zeroOf_info (V := V) (ρ := ρ) hz
    split
    · rename_i sz hsz
      split
      · rename_i cs hf
        obtain ⟨carr', q1, q2⟩ := fillR_sound hG ha sz parts.toList z.cells cs c.cells hf (cells_conc hcz)
        refine VRes.pure R (cv := .agg carr') (run_build w t _ carr' ?_) (concs_agg q2)
        have hu' : E.P.underlying t = some (.array n elem) := (und_some hu).1
        simp only [Abs.sizeOf, Option.map_eq_some_iff] at hsz
        obtain ⟨ie, hie, rfl⟩ := hsz
        simp only [Program.built, hi, hu', hc, hie, Array.toList_map]
        exact q1
      · trivial
    · trivial
  · trivial

/-! ### New memory -/
theorem alloc_sound (R : Rel V N w0 ρ st w) {cs : List AV} {carr : Array Value} (hc : concs V ρ cs = some carr.toList) (elem : TypeId) {s : Sem Value} {k : Nat → St → OpRes}
    (h : ∀ r, r = (⟨w.heap.size, 0, carr.toList.length, 0⟩ : Base) → (ρ.upd st.next r) st.next = some r → ∃ v cv, k st.next (newObj st (solo cs elem)).2 = .val v (newObj st (solo cs elem)).2 ∧ s.run E.P w = .ok cv (w.alloc (.cells carr elem)) ∧ conc V (ρ.upd st.next r) v = some cv) :
    VRes E V N w0 ρ st w s (alloc st cs elem k) := by
  unfold alloc
  refine VRes.bif (fun hn => ?_) fun _ => trivial
  have hn := next_lt hn
  have := new_cells R hn hc [] { elem } 0 rfl rfl (fun sz h => by cases h)
  simp only [List.append_nil] at this
  obtain ⟨h1, h2, h3⟩ := this
  obtain ⟨v, cv, e1, e2, e3⟩ := h _ rfl h3
  show VRes E V N w0 ρ st w s (k st.next (newObj st (solo cs elem)).2)
  rw [e1]
  exact ⟨_, _, cv, e2, e3, h1, h2, rfl⟩

theorem newVar_sound (R : Rel V N w0 ρ st w) (t : TypeId) {v : AV} {c : Value} (hc : conc V ρ v = some c) {s : Sem Value} (hs : s.run E.P w = .ok (.pointer (some ⟨w.heap.size, 0, none⟩)) (w.alloc (.cells c.cells t))) :
    VRes E V N w0 ρ st w s (alloc st v.cells t fun l st => .val (.ptr (some (l, 0))) st) :=
  alloc_sound R (cells_conc hc) t fun r hr h => ⟨_, _, rfl, hs, by subst hr; exact concPtr0 h rfl⟩

theorem allocOp_sound (R : Rel V N w0 ρ st w) (t : TypeId) : VRes E V N w0 ρ st w (Instr.alloc t true (.tuple #[])) (match zeroOf E t with | some z => alloc st z.cells t fun l st => .val (.ptr (some (l, 0))) st | none => .bad "zero") := by
  split
  · rename_i z hz
    obtain ⟨c, h1, h2⟩ := concZero (V := V) (ρ := ρ) hz w
    refine newVar_sound R t h2 ?_
    simp only [Instr.alloc, newVar, newRow, Sem.run_bind, h1, Result.andThen_ok, run_alloc, Sem.run_pure]
  · trivial

theorem box_sound (R : Rel V N w0 ρ st w) (t : TypeId) {v : AV} {c : Value} (hc : conc V ρ v = some c) : VRes E V N w0 ρ st w (Instr.box t c) (alloc st v.cells t fun l st => .val (.ptr (some (l, 0))) st) := by
  refine newVar_sound R t hc ?_
  simp only [Instr.box, newVar, newRow, Sem.run_bind, Result.andThen_ok, run_alloc, Sem.run_pure]

def makeMapA (E : Env) (st : St) (t : TypeId) (r : Option AV) : OpRes :=
  let mk : OpRes := bif Nat.blt st.next 1000000 then let (l, st) := newObj st (.map [] 0 false); .val (.map (some l)) st else .bad "blocks"
  match r with
  | none => mk
  | some v => (match v, und E t with
    | .int _ _, some (.map _ _) => mk
    | _, _ => .bad "makeMap")

theorem makeMap_sound (R : Rel V N w0 ρ st w) (t : TypeId) {r : Option AV} {cr : Option Value} (hr : OptC V ρ r cr) : VRes E V N w0 ρ st w (Instr.makeMap t cr) (makeMapA E st t r) := by
  have mk : ∀ s : Sem Value, s.run E.P w = .ok (.map (some w.heap.size)) (w.alloc (.map #[] 0)) → VRes E V N w0 ρ st w s (bif Nat.blt st.next 1000000 then let (l, st) := newObj st (.map [] 0 false); .val (.map (some l)) st else .bad "blocks") := by
    intro s hs
    refine VRes.bif (fun hn => ?_) fun _ => trivial
    have hn := next_lt hn
    obtain ⟨h1, h2, h3⟩ := new_obj R hn (o := .map [] 0 false) rfl (x := .map #[] 0) ⟨#[], [], alloc_get w _, rfl, fun _ => rfl, List.Perm.refl _⟩
    exact ⟨_, _, _, hs, by simp [conc, newObj, Rho.upd_same], h1, h2, rfl⟩
  unfold makeMapA
  cases r with
  | none =>
    cases cr with
    | some _ => cases hr
    | none => exact mk _ rfl
  | some v =>
    cases cr with
    | none => cases hr
    | some cv =>
      have hv : conc V ρ v = some cv := hr
      dsimp only
      split
      · rename_i k n key elem hu
        simp only [conc, Option.some.injEq] at hv; subst hv
        refine mk _ ?_
        simp only [Instr.makeMap, Sem.run_bind, run_und hu, Result.andThen_ok, asInt, asIntOf, Sem.run_pure, run_alloc]
      · trivial

/-! ### Stores -/
def storeA (E : Env) (st : St) (t : TypeId) (v u : AV) : OpRes := onAddr v fun l o => bif decide (some u.cells.length = sizeOf E t) then (match wrCells st l o u.cells with
    | some st => .skip st
    | none => .bad "store") else .bad "store"

theorem store_sound (R : Rel V N w0 ρ st w) (t : TypeId) {a u : AV} {ca cu : Value} (ha : conc V ρ a = some ca) (hu : conc V ρ u = some cu) : URes E V N w0 ρ st w (Instr.storeAt t ca cu) (storeA E st t a u) := by
  unfold storeA onAddr
  split
  · rename_i l o
    obtain ⟨r, hr, rfl⟩ := concPtr ha
    cases hd : decide (some u.cells.length = Abs.sizeOf E t)
    · trivial
    have hd := of_decide_eq_true hd
    simp only [cond]
    split
    · rename_i st' hw
      have hcc := cells_conc hu
      have hl := concs_length _ _ hcc
      simp only [Array.length_toList] at hl
      obtain ⟨r', w', hr', e1, e2, e3, e4⟩ := wrCells_sound E.P R hr hw hcc
      rw [hr] at hr'; cases hr'
      refine ⟨w', ρ, ?_, e2, e3, e4⟩
      have hsz := run_size (E := E) hd.symm w
      simp only [Instr.storeAt, Instr.sureAddr, storeVar, Sem.run_bind, Sem.run_pure, Result.andThen_ok, hsz]
      rw [if_neg (by omega)]
      exact e1
    · trivial
  · trivial

end Go.Abs

/- Slices of literals; make; lengths; copies; conversions. -/
namespace Go.Abs
variable {V : Val} {N : Nat} {w0 w w' : World} {ρ : Rho} {st st' : St} {E : Env}

/-! ### Repeated cells -/
theorem repeatL_length (cs : List AV) : ∀ n, (repeatL cs n).length = n * cs.length
  | 0 => by simp [repeatL]
  | n + 1 => by simp [repeatL, repeatL_length cs n, Nat.succ_mul]; omega

theorem repeatL_get (cs : List AV) : ∀ (n i : Nat), i < n * cs.length → (repeatL cs n)[i]? = cs[i % cs.length]?
  | 0, i, h => by omega
  | n + 1, i, h => by
    simp only [repeatL]
    rw [Nat.succ_mul] at h
    by_cases hi : i < cs.length
    · rw [List.getElem?_append_left hi, Nat.mod_eq_of_lt hi]
    · rw [List.getElem?_append_right (by omega), repeatL_get cs n (i - cs.length) (by omega), ← Nat.mod_eq_sub_mod (by omega)]

theorem repeatL_conc {cs : List AV} {zc : Array Value} (hc : concs V ρ cs = some zc.toList) (n : Nat) : concs V ρ (repeatL cs n) = some ((Array.range (n * zc.size)).map (zc[· % zc.size]!)).toList := by
  have hl := concs_length _ _ hc
  simp only [Array.length_toList] at hl
  refine concs_ext _ _ (by simp [repeatL_length, hl]) fun i v hv => ?_
  have hi : i < n * cs.length := by rw [← repeatL_length]; exact (List.getElem?_eq_some_iff.1 hv).1
  rw [repeatL_get cs n i hi] at hv
  obtain ⟨x, hx, hxi⟩ := concs_get cs _ hc _ v hv
  refine ⟨x, hx, ?_⟩
  rw [Array.getElem?_toList] at hxi
  rw [Array.getElem?_toList, Array.getElem?_map, Array.getElem?_range, if_pos (by rw [hl]; exact hi)]
  simp only [Option.map_some, Option.some.injEq]
  rw [← hl] at hxi
  have hlt := (Array.getElem?_eq_some_iff.1 hxi).1
  rw [getElem!_pos zc _ hlt]
  have := (Array.getElem?_eq_some_iff.1 hxi).2
  exact this

/- the cells of zero values have the type's own number -/
structure EnvZ (E : Env) : Prop where
  zero : ∀ (t : TypeId) (i : TypeInfo) (c : Value), t < E.nt → E.P.info? t = some i → i.zero = some c → c.cells.size = i.size
  slice : ∀ (t elem : TypeId), und E t = some (.slice elem) → ∃ i z, E.P.info? elem = some i ∧ i.zero = some z ∧ z.cells.size = i.size

theorem zeroCellsN_sound (hZ : EnvZ E) {t : TypeId} {n : Nat} {cs : List AV} (h : zeroCellsN E t n = some cs) : ∃ i c, E.P.info? t = some i ∧ i.zero = some c ∧ c.cells.size = i.size ∧ concs V ρ cs = some ((Array.range (n * c.cells.size)).map (c.cells[· % c.cells.size]!)).toList := by
  unfold zeroCellsN at h
  cases hlt : Nat.blt t E.nt <;> rw [hlt] at h <;> simp only [cond, reduceCtorEq] at h
  have hlt : t < E.nt := Nat.le_of_ble_eq_true hlt
  split at h
  · rename_i z hz
    simp only [Option.some.injEq] at h; subst h
    obtain ⟨i, c, hi, hc, hcz⟩ := zeroOf_info (V := V) (ρ := ρ) hz
    exact ⟨i, c, hi, hc, hZ.zero t i c hlt hi hc, repeatL_conc (cells_conc hcz) n⟩
  · cases h

def buildSliceA (E : Env) (a : Act) (st : St) (t : TypeId) (len : Nat) (parts : List (Nat × Operand)) : OpRes := (match und E t with
    | some (.slice elem) => (match sizeOf E elem, zeroCellsN E elem len with
      | some n, some z => bif Nat.ble (len * n) 100000 then (match fillR E n a z parts with
        | some cs => alloc st cs elem fun l st => .val (.slice (some (l, 0)) (.lit len) (.known len)) st
        | none => .bad "buildSlice") else .bad "buildSlice"
      | _, _ => .bad "buildSlice")
    | _ => .bad "buildSlice")

theorem conc_new {r : Base} {l : Nat} (h : ρ l = some r) (h0 : r.o = 0) (n c : Nat) : conc V ρ (.slice (some (l, 0)) (.lit (n : Int)) (.known c)) = some (.slice (some ⟨r.b, 0, none⟩) n c) := by
  rw [conc_known h, h0]

theorem buildSlice_sound (hZ : EnvZ E) (hG : GlobOK E ρ) (R : Rel V N w0 ρ st w) {a : Act} {ca : Go.Act} (ha : ActRel V ρ a ca.tmps) (t : TypeId) (len : Nat) (parts : Array (Nat × Operand)) :
    VRes E V N w0 ρ st w (Instr.buildSlice t len (parts.map fun (i, x) => (i, ca.eval x))) (buildSliceA E a st t len parts.toList) := by
  unfold buildSliceA
  split
  · rename_i elem hu
    split
    · rename_i n z hn hz
      refine VRes.bif (fun hb => ?_) fun _ => trivial
      have hb := ble hb
      split
      · rename_i cs hf
        obtain ⟨i, c, hi, hc, hsz, hcc⟩ := zeroCellsN_sound (V := V) (ρ := ρ) hZ hz
        have hni : n = i.size := by simp only [Abs.sizeOf, hi, Option.map_some, Option.some.injEq] at hn; exact hn.symm
        obtain ⟨carr', q1, q2⟩ := fillR_sound hG ha n parts.toList z cs _ hf hcc
        refine alloc_sound R q2 elem fun r hr h => ⟨_, .slice (some ⟨w.heap.size, 0, none⟩) len len, rfl, ?_, by subst hr; exact conc_new h rfl len len⟩
        simp only [Instr.buildSlice, Sem.run_bind, run_und hu, Result.andThen_ok, run_size hn]
        rw [if_neg (by omega)]
        have hcs : c.cells.size = n := by rw [hsz, hni]
        rw [hcs] at q1
        rw [← Array.toList_map] at q1
        have hzv : (zeroValue elem).run E.P w = .ok c w := by simp [zeroValue, run_info hi, hc]
        by_cases h0 : len * n = 0
        · rw [if_pos h0]
          have q1' : Instr.fill (fun i => some (i * n, n)) (Array.map (fun x => (#[] : Array Value)[x % (#[] : Array Value).size]!) (Array.range (len * n))) (parts.map fun (i, x) => (i, ca.eval x)).toList = some carr' := by
            rw [h0] at q1 ⊢; rw [show (Array.range 0) = #[] from rfl, Array.map_empty] at q1 ⊢; exact q1
          simp only [Sem.run_bind, Result.andThen_ok, Sem.run_pure, q1', newRow, run_alloc]
        · rw [if_neg h0]
          simp only [Sem.run_bind, Result.andThen_ok, Sem.run_pure, hzv, hcs, q1, newRow, run_alloc]
      · trivial
    · trivial
  · trivial

def makeSliceA (E : Env) (st : St) (t : TypeId) (lv cv : AV) : OpRes := (match lv, cv, und E t with
    | .int _ (.lit n), .int _ (.lit m), some (.slice elem) => (match zeroCellsN E elem m.toNat, (E.P.info? elem).map (·.bytes) with
      | some z, some bytes => bif decide (0 ≤ n) && decide (n ≤ m) && decide (m * bytes ≤ 100000000) && decide (m ≤ 100000000) then alloc st z elem fun b st => .val (.slice (some (b, 0)) (.lit n) (.known m.toNat)) st else .bad "makeSlice"
      | _, _ => .bad "makeSlice")
    | _, _, _ => .bad "makeSlice")

theorem makeSlice_sound (hZ : EnvZ E) (R : Rel V N w0 ρ st w) (t : TypeId) {l c : AV} {cl cc : Value} (hl : conc V ρ l = some cl) (hc : conc V ρ c = some cc) :
    VRes E V N w0 ρ st w (Instr.makeSlice t cl cc) (makeSliceA E st t l c) := by
  unfold makeSliceA
  split
  · rename_i k n k' m elem hu
    simp only [conc, Option.some.injEq, SI.I] at hl hc; subst hl; subst hc
    split
    · rename_i z bytes hz hby
      refine VRes.bif (fun hb => ?_) fun _ => trivial
      simp only [Bool.and_eq_true, decide_eq_true_eq] at hb
      obtain ⟨⟨⟨h0, h1⟩, h2⟩, h3⟩ := hb
      obtain ⟨i, c, hi, hc, hsz, hcc⟩ := zeroCellsN_sound (V := V) (ρ := ρ) hZ hz
      have hbi : bytes = i.bytes := by simp only [hi, Option.map_some, Option.some.injEq] at hby; exact hby.symm
      subst hbi
      refine alloc_sound R hcc elem fun r hr h => ⟨_, .slice (some ⟨w.heap.size, 0, none⟩) n.toNat m.toNat, rfl, ?_, ?_⟩
      · have hwn : IntKind.i64.wrap n = n := wrap_id _ _ (by simp [IntKind.min, IntKind.bits, IntKind.signed]; omega) (by simp [IntKind.max, IntKind.bits, IntKind.signed]; omega)
        have hwm : IntKind.i64.wrap m = m := wrap_id _ _ (by simp [IntKind.min, IntKind.bits, IntKind.signed]; omega) (by simp [IntKind.max, IntKind.bits, IntKind.signed]; omega)
        have hcells : (Go.sizeOf elem).run E.P w = .ok i.size w := by simp [Go.sizeOf, run_info hi]
        simp only [Instr.makeSlice, Sem.run_bind, run_und hu, Result.andThen_ok, asInt, asIntOf, Sem.run_pure, run_info hi, hwn, hwm]
        rw [if_neg (by
          have : ¬ ((i.bytes : Int) * m > 2 ^ 48) := by rw [Int.mul_comm]; omega
          simp only [Bool.or_eq_true, decide_eq_true_eq, not_or]; omega)]
        have hzv : (zeroValue elem).run E.P w = .ok c w := by simp [zeroValue, run_info hi, hc]
        simp only [Sem.run_bind, run_askRoom, Result.andThen_ok, hcells]
        by_cases h0 : m.toNat * i.size = 0
        · rw [if_pos h0]
          have q1' : Array.map (fun x => (#[] : Array Value)[x % (#[] : Array Value).size]!) (Array.range (m.toNat * i.size)) = Array.map (c.cells[· % c.cells.size]!) (Array.range (m.toNat * c.cells.size)) := by
            rw [hsz, h0]; simp
          simp only [Sem.run_bind, Result.andThen_ok, Sem.run_pure, q1', newRow, run_alloc]
        · rw [if_neg h0]
          simp only [Sem.run_bind, Result.andThen_ok, Sem.run_pure, hzv, hsz, newRow, run_alloc]
      · subst hr
        have : n = ((n.toNat : Nat) : Int) := by omega
        rw [this]
        exact conc_new h rfl _ _
    · trivial
  · trivial

/-! ### Lengths -/
theorem run1 {ts : Array TypeId} {t : TypeId} (ht : ts[0]? = some t) : ts[0]? = some t := ht

theorem len_sound (R : Rel V N w0 ρ st w) {t : TypeId} {ts : Array TypeId} (ht : ts[0]? = some t) (tp : TypeId) {x : AV} {cx : Value} (hx : conc V ρ x = some cx) :
    VRes E V N w0 ρ st w (Builtin.len_ ts tp #[cx]) (lenA E st t x) := by
  have h0 : (#[cx] : Array Value)[0]? = some cx := rfl
  unfold lenA
  split
  · rename_i s hu
    simp only [conc] at hx
    split at hx <;> simp only [Option.some.injEq, reduceCtorEq] at hx
    subst hx
    refine VRes.pure R (cv := goInt (concStr V s).size) ?_ (by simp [conc, goInt, concStr_size, SI.I])
    simp only [Builtin.len_, ht, h0, Sem.run_bind, run_und hu, Result.andThen_ok, Sem.run_pure]
  · rename_i n e hu
    refine VRes.pure R (cv := goInt n) ?_ rfl
    simp only [Builtin.len_, ht, h0, Sem.run_bind, run_und hu, Result.andThen_ok]
    rfl
  · rename_i e b n c hu
    have : ∃ a m, cx = .slice a (n.I V).toNat m ∧ 0 ≤ n.I V := by
      cases b with
      | none =>
        cases c <;> simp only [conc, reduceCtorEq] at hx
        split at hx <;> simp only [Option.some.injEq, reduceCtorEq] at hx
        exact ⟨_, _, hx.symm, by assumption⟩
      | some q =>
        simp only [conc, Option.bind_eq_some_iff] at hx
        obtain ⟨r, hr, hx⟩ := hx
        split at hx
        · cases c <;> simp only at hx <;> (try split at hx) <;> simp only [Option.some.injEq, reduceCtorEq] at hx <;> exact ⟨_, _, hx.symm, by assumption⟩
        · cases hx
    obtain ⟨a, m, rfl, hn⟩ := this
    refine VRes.pure R (cv := goInt (n.I V).toNat) ?_ (by simp only [conc, goInt]; congr 2; omega)
    simp only [Builtin.len_, ht, h0, Sem.run_bind, run_und hu, Result.andThen_ok, Sem.run_pure]
  · rename_i k e hu
    simp only [conc, Option.some.injEq] at hx; subst hx
    refine VRes.pure R (cv := goInt 0) ?_ rfl
    simp only [Builtin.len_, ht, h0, Sem.run_bind, run_und hu, Result.andThen_ok, Sem.run_pure]
  · rename_i k e l hu
    simp only [conc, Option.map_eq_some_iff] at hx
    obtain ⟨r, hr, rfl⟩ := hx
    split
    · rename_i es clock ll hg
      obtain ⟨⟨ces, lc, h1, h2, h3, h4⟩, _⟩ := R.obj l _ _ (live_of hg rfl) hr
      have hgo := run_getObj (P := E.P) h1 (by simp)
      have hlen : ces.size = es.length := by
        have a1 := h4.length_eq
        have a2 := (concE_get es lc h2).1
        simp at a1; omega
      refine VRes.pure R (cv := goInt ces.size) ?_ (by simp [conc, goInt, hlen, SI.I])
      simp only [Builtin.len_, ht, h0, Sem.run_bind, run_und hu, Result.andThen_ok, hgo, Sem.run_pure]
    · trivial
  · rename_i arr hu
    split
    · rename_i n e hu2
      refine VRes.pure R (cv := goInt n) ?_ rfl
      simp only [Builtin.len_, ht, h0, Sem.run_bind, run_und hu, Result.andThen_ok, run_und hu2, Sem.run_pure]
    · trivial
  · trivial

theorem max_sound (hE : EnvOK E V) (hpc : PcOK V st.pc) (R : Rel V N w0 ρ st w) (ts : Array TypeId) (tp : TypeId) (b : Bool) (vs : List AV) (cs : List Value) (h : concs V ρ vs = some cs) :
    VRes E V N w0 ρ st w (if b then Builtin.max_ ts tp cs.toArray else Builtin.min_ ts tp cs.toArray) (maxA E st b vs) := by
  cases b
  · simp only [Bool.false_eq_true, if_false]
    unfold maxA
    split
    · rename_i k x k' y
      simp only [concs, conc, Option.bind_some, Option.map_some, Option.some.injEq] at h; subst h
      refine VRes.onB hpc fun r hr => ?_
      simp only [cond] at hr
      rw [mkLt_B hE] at hr
      refine VRes.pure R (cv := .int k (if y.I V < x.I V then y.I V else x.I V)) rfl ?_
      subst hr
      by_cases hlt : y.I V < x.I V <;> simp [hlt, conc]
    · trivial
  · simp only [if_true]
    unfold maxA
    split
    · rename_i k x k' y
      simp only [concs, conc, Option.bind_some, Option.map_some, Option.some.injEq] at h; subst h
      refine VRes.onB hpc fun r hr => ?_
      simp only [cond] at hr
      rw [mkLt_B hE] at hr
      refine VRes.pure R (cv := .int k (if y.I V > x.I V then y.I V else x.I V)) rfl ?_
      subst hr
      by_cases hlt : x.I V < y.I V <;> simp [hlt, conc]
    · trivial

end Go.Abs

/- Appends and copies in known room. -/
namespace Go.Abs
variable {V : Val} {N : Nat} {w0 w w' : World} {ρ : Rho} {st st' : St} {E : Env}

theorem concSliceLit {l o : Nat} {n : Int} {cap : ACap} {c : Value} (h : conc V ρ (.slice (some (l, o)) (.lit n) cap) = some c) : 0 ≤ n ∧ ∃ r o' m, ρ l = some r ∧ c = .slice (some ⟨r.b, r.o + o', none⟩) n.toNat m ∧ (o' = o ∨ n = 0) ∧
    (∀ k, cap = .known k → m = k ∧ o' = o) ∧ (∀ k, cap = .rel k → (k : Int) + n ≤ r.cap ∧ m = r.cap - k ∧ o' = o) ∧ (∀ k o0, cap = .relEnd k o0 → k ≤ r.cap ∧ n = 0 ∧ m = r.cap - k ∧ (r.cap ≠ k → o' = o)) ∧ (∀ k o0, cap = .zeroEnd k o0 → n = 0 ∧ m = 0) := by
  simp only [conc, Option.bind_eq_some_iff] at h
  obtain ⟨r, hr, h⟩ := h
  split at h
  · rename_i hn
    have hn : 0 ≤ n := hn
    refine ⟨hn, r, ?_⟩
    cases cap with
    | known k =>
      simp only [Option.some.injEq] at h; subst h
      exact ⟨o, k, hr, rfl, .inl rfl, (fun k' e => by cases e; exact ⟨rfl, rfl⟩), (fun _ e => by cases e), (fun _ _ e => by cases e), (fun _ _ e => by cases e)⟩
    | rel k =>
      simp only at h
      split at h <;> simp only [Option.some.injEq, reduceCtorEq] at h
      rename_i hk
      subst h
      exact ⟨o, _, hr, rfl, .inl rfl, (fun _ e => by cases e), (fun k' e => by cases e; exact ⟨hk, rfl, rfl⟩), (fun _ _ e => by cases e), (fun _ _ e => by cases e)⟩
    | relEnd k o0 =>
      simp only at h
      split at h <;> simp only [Option.some.injEq, reduceCtorEq] at h
      rename_i hk
      subst h
      refine ⟨_, _, hr, rfl, .inr hk.2, (fun _ e => by cases e), (fun _ e => by cases e), (fun k' o' e => ?_), (fun _ _ e => by cases e)⟩
      cases e
      exact ⟨hk.1, hk.2, rfl, fun hne => by rw [if_neg hne]⟩
    | zeroEnd k o0 =>
      simp only at h
      split at h <;> simp only [Option.some.injEq, reduceCtorEq] at h
      rename_i hk
      subst h
      exact ⟨_, _, hr, rfl, .inr hk.2, (fun _ e => by cases e), (fun _ e => by cases e), (fun _ _ e => by cases e), (fun k' o' e => by cases e; exact ⟨hk.2, rfl⟩)⟩
  · cases h

theorem wrap_i64 (n : Nat) (h : n ≤ 1000000) : IntKind.i64.wrap (n : Int) = n := wrap_id _ _ (by simp [IntKind.min, IntKind.bits, IntKind.signed]; try omega) (by simp [IntKind.max, IntKind.bits, IntKind.signed]; omega)

theorem cell_same (h : w'.heap = w.heap) (a : Addr) : w'.cell? a = w.cell? a := by simp only [World.cell?, h]

theorem concStr_cells {s : List SI} (h : bytesOK V s) : ∀ m, concs V ρ ((s.map fun b => AV.int .u8 b).take m) = some (((concStr V s).extract 0 m).data.map fun b => Value.int .u8 b.toNat).toList := by
  intro m
  have : ((concStr V s).extract 0 m).data.toList = (bytesL V s).take m := by
    rw [ByteArray.data_extract]
    simp [concStr, bytesL]
  rw [Array.toList_map, this]
  unfold bytesL
  rw [← List.map_take, ← List.map_take, List.map_map]
  have hok : ∀ e ∈ s.take m, 0 ≤ e.I V ∧ e.I V < 256 := fun e he => h e (List.mem_of_mem_take he)
  generalize s.take m = u at hok
  induction u with
  | nil => rfl
  | cons e u ih =>
    have he := hok e (by simp)
    have := ih (fun e he => hok e (by simp [he]))
    simp only [List.map_cons, concs, conc, this, Option.bind_some, Option.map_some, Function.comp_apply]
    congr 3
    simp; omega

/- the bytes of a slice or a string, as they are taken -/
theorem srcCells_sound (R : Rel V N w0 ρ st w) {x : AV} {cx : Value} {size : Nat} {new : List AV} (h : sliceCells st x size = some new) (hx : conc V ρ x = some cx) :
    ∃ n xs, (∀ w2, (Builtin.lenOf cx).run E.P w2 = .ok n w2) ∧ new.length = n * size ∧ concs V ρ new = some xs ∧ ∀ m, m ≤ n → ∀ w2 : World, w2.heap = w.heap → (Builtin.firstCells size m cx).run E.P w2 = .ok (xs.take (m * size)).toArray w2 := by
  unfold sliceCells at h
  split at h
  · rename_i l o n cap
    obtain ⟨hn, r, o', m, hr, rfl, ho, _⟩ := concSliceLit hx
    obtain ⟨r', xs, hr', h1, h2, h3, h4⟩ := rdCells_sound R hr h
    rw [hr] at hr'; cases hr'
    refine ⟨n.toNat, xs, fun _ => rfl, h3, h1, fun k hk w2 hw => ?_⟩
    rcases ho with rfl | rfl
    · have hle := Nat.mul_le_mul_right size hk
      have hlen : (xs.take (k * size)).length = k * size := by simp; omega
      have := run_loadCells (P := E.P) (w := w2) (b := r.b) (o := r.o + o') (xs.take (k * size)) (fun j y hj => by
        rw [cell_same hw]
        refine h4 j y ?_
        rw [List.getElem?_take] at hj
        split at hj
        · exact hj
        · cases hj)
      rw [hlen] at this
      exact this
    · have hk : k = 0 := by simpa using hk
      subst hk
      simp [Builtin.firstCells, loadCells, loadCellsFrom]
  · rename_i n cap
    cases hb : (n == 0) <;> rw [hb] at h <;> simp only [cond, Option.some.injEq, reduceCtorEq] at h
    have hb : n = 0 := by simpa using hb
    subst hb; subst h
    cases cap <;> simp only [conc, reduceCtorEq] at hx
    split at hx <;> simp only [Option.some.injEq, reduceCtorEq] at hx
    subst hx
    exact ⟨0, [], fun _ => rfl, by simp, rfl, fun m hm w2 _ => by simp [Builtin.firstCells]⟩
  · rename_i s
    cases hb : Nat.beq size 1 <;> rw [hb] at h <;> simp only [cond, Option.some.injEq, reduceCtorEq] at h
    have hb := beqt hb
    subst hb; subst h
    simp only [conc] at hx
    split at hx <;> simp only [Option.some.injEq, reduceCtorEq] at hx
    rename_i hok
    subst hx
    have hall := concStr_cells (V := V) (ρ := ρ) hok s.length
    rw [List.take_of_length_le (by simp)] at hall
    refine ⟨s.length, _, fun _ => by simp [Builtin.lenOf, concStr_size], by simp, hall, fun m hm w2 _ => ?_⟩
    have hm' := concStr_cells (V := V) (ρ := ρ) hok m
    have : concs V ρ ((s.map fun b => AV.int .u8 b).take m) = some ((((concStr V s).extract 0 s.length).data.map fun b => Value.int .u8 b.toNat).toList.take m) := by
      have h1 : ((s.map fun b => AV.int .u8 b).take m) = (((s.map fun b => AV.int .u8 b)).drop 0).take m := by simp
      rw [h1]
      have := concs_readN (V := V) (ρ := ρ) (cs := s.map fun b => AV.int .u8 b) (vs := (s.map fun b => AV.int .u8 b).take m) (o := 0) (n := m) (xs := (((concStr V s).extract 0 s.length).data.map fun b => Value.int .u8 b.toNat).toList) ?_ hall
      · simpa using this
      · clear hm' hall h1
        have : ∀ (l : List AV) (m : Nat), m ≤ l.length → readN l 0 m = some (l.take m) := by
          intro l
          induction l with
          | nil => intro m hm; have : m = 0 := by simpa using hm
                   subst this; rfl
          | cons a l ih =>
            intro m hm
            cases m with
            | zero => rfl
            | succ m => simp [readN, ih m (by simpa using hm)]
        exact this _ m (by simpa using hm)
    rw [hm'] at this
    simp only [Option.some.injEq] at this
    simp only [Builtin.firstCells, Sem.run_pure, Nat.mul_one]
    rw [← this]
  · cases h

/-! ### Growth -/
theorem growBy_le (need : Nat) : ∀ (k c : Nat), Builtin.growBy need k c ≤ max c (need + (need + 768) / 4)
  | 0, c => by simp only [Builtin.growBy]; omega
  | k + 1, c => by
    simp only [Builtin.growBy]
    split
    · omega
    · have := growBy_le need k (c + (c + 768) / 4)
      omega

theorem nextslicecap_le {need old : Nat} (h : old < need) : Builtin.nextslicecap need old ≤ 2 * need + 768 := by
  unfold Builtin.nextslicecap
  split
  · omega
  · split
    · omega
    · have := growBy_le need 4 old
      omega

/- what an append takes: its number, and its cells, wherever memory is as it is -/
structure AppSrc (E : Env) (w : World) (ts : Array TypeId) (x : Value) (elem : TypeId) (size n : Nat) (xs : List Value) : Prop where
  src : ∃ xT xd, ts[1]? = some xT ∧ und E xT = some xd ∧
    (((∃ k, xd = .int k) ∧ ∃ i z, x = .int .i64 (n : Int) ∧ n ≤ 1000000 ∧ E.P.info? elem = some i ∧ i.zero = some z ∧ z.cells.size = size ∧ i.bytes * n ≤ 2 ^ 47 ∧ (n * size = 0 → xs = []) ∧ xs = (Builtin.zeroCells z.cells n).toList) ∨
      ((∀ k, xd ≠ .int k) ∧ (∀ w2, (Builtin.lenOf x).run E.P w2 = .ok n w2) ∧ ∀ w2 : World, w2.heap = w.heap → (Builtin.firstCells size n x).run E.P w2 = .ok xs.toArray w2))

theorem run_append_in {ts : Array TypeId} {sT elem tp : TypeId} {size n sLen sCap : Nat} {base : Option Addr} {x : Value} {xs : List Value} (hsT : ts[0]? = some sT) (hu : und E sT = some (.slice elem)) (hsz : Abs.sizeOf E elem = some size)
    (hs : AppSrc E w ts x elem size n xs) (hle : sLen + n ≤ sCap) {w' : World} (hst : (match base with | some a => storeCells (a.add (sLen * size)) xs | none => pure ()).run E.P w = .ok () w') :
    (Builtin.append_ ts tp #[.slice base sLen sCap, x]).run E.P w = .ok (.slice base (sLen + n) sCap) w' := by
  obtain ⟨xT, xd, hxT, hux, hs⟩ := hs.src
  have h0 : (#[Value.slice base sLen sCap, x] : Array Value)[0]? = some (.slice base sLen sCap) := rfl
  have h1 : (#[Value.slice base sLen sCap, x] : Array Value)[1]? = some x := rfl
  rcases hs with ⟨⟨k, rfl⟩, i, z, rfl, hn, hi, hz, hzs, hby, hxs0, hxs⟩ | ⟨hk, hlen, hfirst⟩
  · have hwn : IntKind.i64.wrap (n : Int) = n := wrap_i64 n hn
    have hbytes : ¬ ((n : Int) * (i.bytes : Int) > 2 ^ 48) := by
      have : ((i.bytes * n : Nat) : Int) ≤ 2 ^ 47 := by exact_mod_cast hby
      rw [Int.mul_comm]; push_cast at this; omega
    have hneg : ¬ ((n : Int) < 0) := by omega
    have hzv : (zeroValue elem).run E.P w = .ok z w := by simp [zeroValue, run_info hi, hz]
    simp only [Builtin.append_, hsT, h0, h1, Sem.run_bind, run_und hu, Result.andThen_ok, run_size hsz, hxT, run_und hux, Sem.run_pure, if_true, asInt, asIntOf, hwn, hneg, if_false, run_info hi, hbytes, Int.toNat_natCast, hle, Bool.not_true, Bool.false_eq_true]
    by_cases h0 : n * size = 0
    · rw [if_pos h0]
      have := hxs0 h0
      subst this
      cases base with
      | none => simp only [Sem.run_bind, Sem.run_pure, Result.andThen_ok] at hst ⊢; injection hst with _ e; rw [e]
      | some a => simp only [Sem.run_bind, Sem.run_pure, Result.andThen_ok] at hst ⊢; rw [hst]; rfl
    · rw [if_neg h0]
      cases base with
      | none =>
        simp only [Sem.run_bind, Sem.run_pure, Result.andThen_ok, hzv] at hst ⊢
        injection hst with _ e; rw [e]
      | some a =>
        simp only [Sem.run_bind, Sem.run_pure, Result.andThen_ok, hzv] at hst ⊢
        rw [← hxs, hst]; rfl
  · have hm : (match xd with | .int _ => true | _ => false) = false := by
      cases xd <;> first | rfl | exact absurd rfl (hk _)
    simp only [Builtin.append_, hsT, h0, h1, Sem.run_bind, run_und hu, Result.andThen_ok, run_size hsz, hxT, run_und hux, Sem.run_pure, hm, Bool.false_eq_true, if_false, hlen, hle, if_true, Bool.not_false, hfirst w rfl]
    cases base with
    | none =>
      simp only [Sem.run_pure] at hst
      injection hst with _ e; rw [e]; rfl
    | some a =>
      simp only [List.toList_toArray, Sem.run_bind] at hst ⊢
      rw [hst]; rfl

theorem run_append_grow {ts : Array TypeId} {sT elem tp : TypeId} {n sLen sCap : Nat} {base : Option Addr} {x : Value} {xs old : List Value} {i : TypeInfo} {z : Value} (hsT : ts[0]? = some sT) (hu : und E sT = some (.slice elem)) (hi : E.P.info? elem = some i) (hz : i.zero = some z) (hzs : z.cells.size = i.size)
    (hs : AppSrc E w ts x elem i.size n xs) (hlt : sCap < sLen + n) (hsmall : (sLen + n) * (i.bytes + 1) ≤ 100000000) (hold : ∀ w2 : World, w2.heap = w.heap → (Builtin.firstCells i.size sLen (.slice base sLen sCap)).run E.P w2 = .ok old.toArray w2) :
    ∃ cap rest, sLen + n ≤ cap ∧ rest.length = (cap - (sLen + n)) * i.size ∧ (Builtin.append_ ts tp #[.slice base sLen sCap, x]).run E.P w = .ok (.slice (some ⟨w.heap.size, 0, none⟩) (sLen + n) cap) (({ w with drawn := w.drawn + 1 } : World).alloc (.cells (old ++ xs ++ rest).toArray elem)) := by
  obtain ⟨xT, xd, hxT, hux, hs⟩ := hs.src
  have h0 : (#[Value.slice base sLen sCap, x] : Array Value)[0]? = some (.slice base sLen sCap) := rfl
  have h1 : (#[Value.slice base sLen sCap, x] : Array Value)[1]? = some x := rfl
  have hsz : Abs.sizeOf E elem = some i.size := by simp [Abs.sizeOf, hi]
  have hnle : ¬ (sLen + n ≤ sCap) := by omega
  have hexp : (sLen + n) * (i.bytes + 1) = (sLen + n) * i.bytes + (sLen + n) := by rw [Nat.mul_add, Nat.mul_one]
  have hnext : ¬ (Builtin.nextslicecap (sLen + n) sCap * i.bytes > 2 ^ 48) := by
    have h1 := nextslicecap_le hlt
    have h2 := Nat.mul_le_mul_right i.bytes h1
    have h3 : (2 * (sLen + n) + 768) * i.bytes = 2 * ((sLen + n) * i.bytes) + 768 * i.bytes := by rw [Nat.add_mul, Nat.mul_assoc]
    have h4 : i.bytes ≤ (sLen + n) * i.bytes := by
      have := Nat.mul_le_mul_right i.bytes (show 1 ≤ sLen + n by omega)
      omega
    omega
  have hbig : ¬ (((sLen + n : Nat) : Int) > IntKind.i64.max) := by rw [IntKind.max_i64]; omega
  have hzv : ∀ w2, (zeroValue elem).run E.P w2 = .ok z w2 := fun w2 => by simp [zeroValue, run_info hi, hz]
  have hcat : ∀ (u : List Value) (Z : Array Value), (old.toArray ++ u.toArray ++ Z) = (old ++ u ++ Z.toList).toArray := fun u Z => by apply Array.toList_inj.1; simp
  have hforced : (Question.appendCap (sLen + n) sCap elem).forced = false := rfl
  refine ⟨(Question.appendCap (sLen + n) sCap elem).cut (w.tape w.drawn (.appendCap (sLen + n) sCap elem)), (Builtin.zeroCells z.cells ((Question.appendCap (sLen + n) sCap elem).cut (w.tape w.drawn (.appendCap (sLen + n) sCap elem)) - (sLen + n))).toList, ?_, ?_, ?_⟩
  · simp only [Question.cut]; omega
  · simp only [Builtin.zeroCells, Array.length_toList, Array.size_map, Array.size_range, hzs]
  · rcases hs with ⟨⟨k, rfl⟩, i', z', rfl, hn, hi', hz', hzs', hby, hxs0, hxs⟩ | ⟨hk, hlen, hfirst⟩
    · rw [hi] at hi'; cases hi'
      rw [hz] at hz'; cases hz'
      have hwn : IntKind.i64.wrap (n : Int) = n := wrap_i64 n hn
      have hbytes : ¬ ((n : Int) * (i.bytes : Int) > 2 ^ 48) := by
        have : ((i.bytes * n : Nat) : Int) ≤ 2 ^ 47 := by exact_mod_cast hby
        rw [Int.mul_comm]; push_cast at this; omega
      have hneg : ¬ ((n : Int) < 0) := by omega
      simp only [Builtin.append_, hsT, h0, h1, Sem.run_bind, run_und hu, Result.andThen_ok, run_size hsz, hxT, run_und hux, Sem.run_pure, if_true, asInt, asIntOf, hwn, hneg, if_false, run_info hi, hbytes, Int.toNat_natCast, hnle, Bool.not_true, Bool.false_eq_true, hbig, false_and, hnext, run_choose, hforced, run_askRoom]
      rw [hold { w with drawn := w.drawn + 1 } rfl]
      simp only [Result.andThen_ok]
      by_cases h0 : n * i.size = 0
      · rw [if_pos h0]
        have := hxs0 h0
        subst this
        simp only [Sem.run_bind, Sem.run_pure, Result.andThen_ok, hzv, newRow, run_alloc]
        rw [show (#[] : Array Value) = ([] : List Value).toArray from rfl, hcat]
      · rw [if_neg h0]
        simp only [Sem.run_bind, Sem.run_pure, Result.andThen_ok, hzv, newRow, run_alloc]
        have hzx : Builtin.zeroCells z.cells n = xs.toArray := by rw [hxs]
        rw [hzx, hcat]
    · have hm : (match xd with | .int _ => true | _ => false) = false := by
        cases xd <;> first | rfl | exact absurd rfl (hk _)
      simp only [Builtin.append_, hsT, h0, h1, Sem.run_bind, run_und hu, Result.andThen_ok, run_size hsz, hxT, run_und hux, Sem.run_pure, hm, Bool.false_eq_true, if_false, hlen, hnle, Bool.not_false, if_true, run_info hi, hbig, false_and, hnext, run_choose, hforced, run_askRoom]
      rw [hold { w with drawn := w.drawn + 1 } rfl]
      simp only [Result.andThen_ok]
      rw [hfirst { w with drawn := w.drawn + 1 } rfl]
      simp only [Sem.run_bind, Sem.run_pure, Result.andThen_ok, hzv, newRow, run_alloc]
      rw [hcat]

end Go.Abs

/- Appends where the room is known; copies; clearings. -/
namespace Go.Abs
variable {V : Val} {N : Nat} {w0 w w' : World} {ρ : Rho} {st st' : St} {E : Env}

theorem grown_sound (R : Rel V N w0 ρ st w) {cs : List AV} {xs : List Value} (hc : concs V ρ cs = some xs) (rest : List Value) (m : Meta) (len cap : Nat) (hro : m.ro = false) (hal : m.al = none)
    (hg : ∀ sz, m.grow = some sz → (xs ++ rest).length = cap * sz) (hcap : len ≤ cap) {s : Sem Value}
    (hs : s.run E.P w = .ok (.slice (some ⟨w.heap.size, 0, none⟩) len cap) (({ w with drawn := w.drawn + 1 } : World).alloc (.cells (xs ++ rest).toArray m.elem))) :
    VRes E V N w0 ρ st w s (grown st cs m len) := by
  unfold grown
  refine VRes.bif (fun hn => ?_) fun _ => trivial
  have hn := next_lt hn
  have R2 : Rel V N w0 ρ st { w with drawn := w.drawn + 1 } := R.same rfl rfl rfl rfl
  obtain ⟨h1, h2, h3⟩ := new_cells R2 hn hc rest m cap hro hal hg
  have hx : Ext ρ st w ρ st { w with drawn := w.drawn + 1 } := Ext.same rfl
  refine ⟨_, _, _, hs, ?_, h1, hx.trans h2, rfl⟩
  have := conc_rel (V := V) h3 len 0 0 (by simpa using hcap)
  simpa using this

theorem lit_toNat {n : Int} (h : 0 ≤ n) : ((n.toNat : Nat) : Int) = n := by omega

theorem append_zero {ts : Array TypeId} {sT elem tp : TypeId} {size sLen sCap : Nat} {base : Option Addr} {x : Value} {xs : List Value} (hsT : ts[0]? = some sT) (hu : und E sT = some (.slice elem)) (hsz : Abs.sizeOf E elem = some size)
    (hs : AppSrc E w ts x elem size 0 xs) (hxs : xs = []) (hle : sLen ≤ sCap) : (Builtin.append_ ts tp #[.slice base sLen sCap, x]).run E.P w = .ok (.slice base sLen sCap) w := by
  subst hxs
  exact run_append_in hsT hu hsz hs (by omega) (by cases base <;> rfl)

/- the row is not known to have room, or to have none -/
def unknownRoom (E : Env) (st : St) (elem : TypeId) (size l o len : Nat) (new : List AV) (n m : Nat) : OpRes := (match st.heap.get l with
      | some (.cells cs mt) =>
        bif !mt.ro && valid st mt.al && Nat.beq mt.elem elem && decide (mt.grow = some size) && Nat.beq o (m * size) && Nat.ble mt.fz (o + len * size) && Nat.ble (o + len * size) cs.length && new.all AV.oneCell then
          (match readN cs o (len * size) with
          | none => .bad "append: read"
          | some old =>
            let g := match mt.al with | some (g, _, _) => g | none => l
            let b := match mt.al with | some (_, b, _) => b | none => 0
            let v := match mt.al with | some (_, _, v) => v | none => 0
            let mx := match mt.al with | some (g, _, _) => ((st.grps.get g).map (·.2)).getD 0 | none => cs.length
            let at_ := b + o + len * size
            let v' := bif Nat.ble mx at_ then v else v + 1
            let st := { st with heap := st.heap.set l (some (.cells cs { mt with al := some (g, b, v) })), grps := st.grps.set g (some (v', max mx (at_ + new.length))) }
            grown st (old ++ new) { elem, fz := mt.fz - o, sm := mt.sm, grow := some size, al := some (g, b + o, v') } (len + n))
        else .bad "append: unknown room"
      | _ => .bad "append")

theorem append_known (hZ : EnvZ E) (R : Rel V N w0 ρ st w) {ts : Array TypeId} {sT elem : TypeId} (tp : TypeId) {size bytes n : Nat} {s : AV} {cs x : Value} {new : List AV} {xs : List Value} (hsT : ts[0]? = some sT) (hu : und E sT = some (.slice elem))
    (hsz : Abs.sizeOf E elem = some size) (hby : (E.P.info? elem).map (·.bytes) = some bytes) (hs : conc V ρ s = some cs) (hx : AppSrc E w ts x elem size n xs) (hnew : concs V ρ new = some xs) (hlen : new.length = n * size)
    (hun : ∀ l o len cap m, s = .slice (some (l, o)) (.lit len) cap → (cap = .rel m ∨ ∃ o0, cap = .relEnd m o0) → n ≠ 0 → (len.toNat + n) * (bytes + 1) ≤ 100000000 → VRes E V N w0 ρ st w (Builtin.append_ ts tp #[cs, x]) (unknownRoom E st elem size l o len.toNat new n m)) :
    VRes E V N w0 ρ st w (Builtin.append_ ts tp #[cs, x]) (appendA E st elem size bytes s new n) := by
  obtain ⟨i, z, hi, hz, hzs⟩ := hZ.slice sT elem hu
  have hsi : size = i.size := by simp only [Abs.sizeOf, hi, Option.map_some, Option.some.injEq] at hsz; exact hsz.symm
  have hbi : bytes = i.bytes := by simp only [hi, Option.map_some, Option.some.injEq] at hby; exact hby.symm
  subst hsi; subst hbi
  have hxl := concs_length _ _ hnew
  have hnil : n = 0 → xs = [] := fun h => by subst h; exact List.eq_nil_of_length_eq_zero (by omega)
  unfold appendA
  split
  · rename_i base len cap
    dsimp only
    refine VRes.bif (fun _ => trivial) fun hb => ?_
    simp only [Bool.or_eq_false_iff] at hb
    have hsmall := nble hb.1
    have hsize : i.size ≠ 0 := by
      intro h; rw [h] at hb; simp at hb
    split
    · -- nil
      rename_i c
      simp only [conc] at hs
      split at hs <;> simp only [Option.some.injEq, reduceCtorEq] at hs
      rename_i hn0
      have hn0 : 0 ≤ len := hn0
      subst hs
      refine VRes.bif (fun _ => trivial) fun hl => ?_
      have hl : len.toNat = 0 := beqt (by simpa using hl)
      have hlit : SI.I V (.lit len) = len := rfl
      rw [hlit, hl]
      refine VRes.bif (fun hn => ?_) fun hn => ?_
      · have hn := beqt hn
        subst hn
        refine VRes.pure R (append_zero hsT hu hsz hx (hnil rfl) (by omega)) ?_
        have : len = ((0 : Nat) : Int) := by omega
        rw [this]; exact conc_known_nil 0 c
      · refine VRes.bif (fun _ => trivial) fun hc => ?_
        have hc : ¬ n ≤ c := fun h => by rw [Nat.ble_eq_true_of_le h] at hc; cases hc
        obtain ⟨cap, rest, g1, g2, g3⟩ := run_append_grow (tp := tp) (base := none) (sLen := 0) (sCap := c) (old := []) hsT hu hi hz hzs hx (by omega) (by rw [hl] at hsmall; exact hsmall) (fun w2 _ => rfl)
        simp only [List.nil_append, Nat.zero_add] at g1 g2 g3
        refine grown_sound R hnew rest { elem, grow := some i.size } n cap rfl rfl (fun sz h => ?_) g1 g3
        simp only [Option.some.injEq] at h; subst h
        rw [List.length_append, hxl, hlen, g2, Nat.sub_mul]
        have := Nat.mul_le_mul_right i.size g1
        omega
    · rename_i c l o
      obtain ⟨hn0, r, o', m, hr, rfl, _, hk, _⟩ := concSliceLit hs
      obtain ⟨rfl, rfl⟩ := hk _ rfl
      refine VRes.bif (fun hle => ?_) fun hle => ?_
      · have hle := ble hle
        split
        · rename_i st' hw
          obtain ⟨r', w', hr', e1, e2, e3, e4⟩ := wrCells_sound E.P R hr hw hnew
          rw [hr] at hr'; cases hr'
          refine ⟨w', ρ, _, run_append_in (base := some ⟨r.b, r.o + o', none⟩) hsT hu hsz hx hle (w' := w') ?_, ?_, e2, e3, e4⟩
          · show Sem.run E.P (storeCells (Addr.add ⟨r.b, r.o + o', none⟩ (len.toNat * i.size)) xs) w = .ok () w'
            rw [Addr.add_eq]
            simpa [Nat.add_assoc] using e1
          · exact conc_known hr _ _ _
        · trivial
      · have hle : ¬ (len.toNat + n ≤ m) := fun h => by rw [Nat.ble_eq_true_of_le h] at hle; cases hle
        split
        · rename_i old hrd
          obtain ⟨r', oxs, hr', h1, h2, h3, h4⟩ := rdCells_sound R hr hrd
          rw [hr] at hr'; cases hr'
          obtain ⟨cap, rest, g1, g2, g3⟩ := run_append_grow (tp := tp) (base := some ⟨r.b, r.o + o', none⟩) (sLen := len.toNat) (sCap := m) (old := oxs) hsT hu hi hz hzs hx (by omega) hsmall (fun w2 hw => by
            have := run_loadCells (P := E.P) (w := w2) (b := r.b) (o := r.o + o') oxs (fun j y hj => by rw [cell_same hw]; exact h4 j y hj)
            rw [h2] at this
            exact this)
          refine grown_sound R (cs := old ++ new) (xs := oxs ++ xs) (by rw [concs_append, h1, hnew]; rfl) rest { elem, grow := some i.size } _ cap rfl rfl (fun sz h => ?_) g1 g3
          simp only [Option.some.injEq] at h; subst h
          rw [List.length_append, List.length_append, h2, hxl, hlen, g2, Nat.sub_mul, ← Nat.add_mul]
          have := Nat.mul_le_mul_right i.size g1
          omega
        · trivial
    · rename_i k o0 q
      obtain ⟨l, o⟩ := q
      obtain ⟨hn0, r, o', m, hr, rfl, _, _, _, _, hk⟩ := concSliceLit hs
      obtain ⟨rfl, rfl⟩ := hk _ _ rfl
      refine VRes.bif (fun _ => ?_) fun _ => trivial
      refine VRes.bif (fun hn => ?_) fun hn => ?_
      · have hn := beqt hn
        subst hn
        exact VRes.pure R (append_zero hsT hu hsz hx (hnil rfl) (by simp)) hs
      · have hn : n ≠ 0 := fun h => by subst h; cases hn
        obtain ⟨cap, rest, g1, g2, g3⟩ := run_append_grow (tp := tp) (base := some ⟨r.b, r.o + o', none⟩) (sLen := 0) (sCap := 0) (old := []) hsT hu hi hz hzs hx (by omega) hsmall (fun w2 _ => by simp [Builtin.firstCells, loadCells, loadCellsFrom])
        simp only [List.nil_append, Nat.zero_add] at g1 g2 g3
        refine grown_sound R hnew rest { elem, grow := some i.size } n cap rfl rfl (fun sz h => ?_) g1 g3
        simp only [Option.some.injEq] at h; subst h
        rw [List.length_append, hxl, hlen, g2, Nat.sub_mul]
        have := Nat.mul_le_mul_right i.size g1
        omega
    · rename_i m o0 l o
      refine VRes.bif (fun hn => ?_) fun hn => ?_
      · have hn := beqt hn
        subst hn
        obtain ⟨hn0, r, o', mm, hr, rfl, _, _, _, hk, _⟩ := concSliceLit hs
        obtain ⟨hk1, rfl, hk2, _⟩ := hk _ _ rfl
        exact VRes.pure R (append_zero hsT hu hsz hx (hnil rfl) (by simp)) hs
      · have hn : n ≠ 0 := fun h => by subst h; cases hn
        exact hun l o len _ m rfl (.inr ⟨_, rfl⟩) hn hsmall
    · rename_i m l o
      refine VRes.bif (fun hn => ?_) fun hn => ?_
      · have hn := beqt hn
        subst hn
        obtain ⟨hn0, r, o', mm, hr, rfl, _, _, hk, _, _⟩ := concSliceLit hs
        obtain ⟨hk1, hk2, _⟩ := hk _ rfl
        exact VRes.pure R (append_zero hsT hu hsz hx (hnil rfl) (by omega)) hs
      · have hn : n ≠ 0 := fun h => by subst h; cases hn
        exact hun l o len _ m rfl (.inl rfl) hn hsmall
    · trivial
  · trivial

end Go.Abs

/- Appends where it is not known whether there is room; copies; clearings. -/
namespace Go.Abs
variable {V : Val} {N : Nat} {w0 w w' : World} {ρ : Rho} {st st' : St} {E : Env}

/- the group of a row: its own, or a new one of its own number -/
def GrpOf (st : St) (l : Nat) (cs : List AV) (mt : Meta) (g b v mx : Nat) : Prop :=
  (mt.al = some (g, b, v) ∧ st.grps.get g = some (v, mx)) ∨ (mt.al = none ∧ g = l ∧ b = 0 ∧ v = 0 ∧ mx = cs.length)

theorem ObjRel.al {r : Base} {cs : List AV} {m : Meta} (h : ObjRel V ρ w r (.cells cs m)) (q : Nat × Nat × Nat) : ObjRel V ρ w r (.cells cs { m with al := some q }) := by
  obtain ⟨carr, fr, h1, h2, h3, h4, h5, h6, h7⟩ := h
  exact ⟨carr, fr, h1, h2, h3, h4, h5, h6, fun h => by cases h⟩

section
variable {l g b v mx v' mx' : Nat} {cs cs' : List AV} {mt m' : Meta} {r r' : Base} {o p : Nat}

def grownSt (st : St) (l : Nat) (cs : List AV) (mt : Meta) (g b v v' mx' : Nat) : St :=
  { st with heap := st.heap.set l (some (.cells cs { mt with al := some (g, b, v) })), grps := st.grps.set g (some (v', mx')) }

/- what is alive of the old names -/
theorem live_old (R : Rel V N w0 ρ st w) (hl : Live st l (.cells cs mt)) (hr : ρ l = some r) (hg : GrpOf st l cs mt g b v mx) (hv : v ≤ v') {l2 : Nat} {o2 : AObj} (hne : l2 ≠ st.next)
    (h2 : Live (newObj (grownSt st l cs mt g b v v' mx') (.cells cs' m')).2 l2 o2) :
    (l2 ≠ l ∧ Live st l2 o2 ∧ ∀ cs2 m2 b2 v2, o2 = .cells cs2 m2 → m2.al = some (g, b2, v2) → v2 = v ∧ v' = v ∧ mt.al = some (g, b, v)) ∨ (l2 = l ∧ o2 = .cells cs { mt with al := some (g, b, v) } ∧ v' = v) := by
  have hlt := R.lt hr
  have hsm := R.small
  have hglt : g < st.next := by
    rcases hg with ⟨h, _⟩ | ⟨_, h, _⟩
    · exact (R.grp l cs mt g b v hl h).1
    · omega
  have hgs : (st.grps.set g (some (v', mx'))).get g = some (v', mx') := T.get_set_same 24 _ _ _ R.deepg (by omega)
  obtain ⟨h2a, h2b⟩ := h2
  simp only [newObj, grownSt] at h2a h2b
  rw [T.get_set_other _ _ _ _ hne] at h2a
  by_cases hll : l2 = l
  · subst hll
    rw [T.get_set_same 24 _ _ _ R.deep (by omega)] at h2a
    have h2a := (Option.some.inj h2a).symm
    subst h2a
    refine .inr ⟨rfl, rfl, ?_⟩
    have := h2b cs _ rfl
    simp only [valid, hgs] at this
    exact (beqt this).symm
  · rw [T.get_set_other _ _ _ _ hll] at h2a
    have key : ∀ cs2 m2 b2 v2, o2 = .cells cs2 m2 → m2.al = some (g, b2, v2) → v2 = v ∧ v' = v ∧ mt.al = some (g, b, v) := by
      rintro cs2 m2 b2 v2 rfl hal
      have := h2b cs2 m2 rfl
      simp only [valid, hal, hgs] at this
      have := beqt this
      obtain ⟨vv, mm, e1, e2⟩ := R.ver l2 cs2 m2 g b2 v2 h2a hal
      rcases hg with ⟨h, h'⟩ | ⟨h, rfl, _⟩
      · rw [h'] at e1; cases e1
        exact ⟨by omega, by omega, h⟩
      · rw [R.grp0 g cs mt hl.1 h] at e1; cases e1
    refine .inl ⟨hll, ⟨h2a, fun cs2 m2 e => ?_⟩, key⟩
    have hval := h2b cs2 m2 e
    unfold valid at hval ⊢
    split at hval
    · rfl
    · rename_i g2 b2 v2 hal
      by_cases hgg : g2 = g
      · subst hgg
        obtain ⟨rfl, rfl, hmt⟩ := key cs2 m2 b2 v2 e hal
        rcases hg with ⟨_, h'⟩ | ⟨h, _⟩
        · rw [h']; simp
        · rw [h] at hmt; cases hmt
      · rw [T.get_set_other _ _ _ _ hgg] at hval
        exact hval

theorem Rel.grow (R : Rel V N w0 ρ st w) (hl : Live st l (.cells cs mt)) (hro : mt.ro = false) (hr : ρ l = some r) (hg : GrpOf st l cs mt g b v mx) (hv : v ≤ v') (hmx : mx ≤ mx') (hpos : v' = v → mx ≤ b + p) (hn : st.next < 1000002)
    (hsz : w.heap.size ≤ w'.heap.size) (hrb : r'.b < w'.heap.size) (hoth : ∀ b, b < w.heap.size → b ≠ r.b → w'.heap[b]? = w.heap[b]?) (ht : w'.tape = w.tape) (hos : w'.os = w.os) (hout : w'.output = w.output)
    (hkeep : ∀ r2 cs2 m2, r2.b = r.b → r2.o + cs2.length ≤ r.o + p → ObjRel V ρ w r2 (.cells cs2 m2) → ObjRel V ρ w' r2 (.cells cs2 m2))
    (hnew : ObjRel V (ρ.upd st.next r') w' r' (.cells cs' m')) (hblk : (r'.b = r.b ∧ r'.o = r.o + o) ∨ w.heap.size ≤ r'.b) (hlen : b + o + cs'.length ≤ mx') (hal' : m'.al = some (g, b + o, v')) (hro' : m'.ro = false) :
    Rel V N w0 (ρ.upd st.next r') (newObj (grownSt st l cs mt g b v v' mx') (.cells cs' m')).2 w' ∧ Ext ρ st w (ρ.upd st.next r') (newObj (grownSt st l cs mt g b v v' mx') (.cells cs' m')).2 w' := by
  have hlt := R.lt hr
  have hsm := R.small
  have hglt : g < st.next := by
    rcases hg with ⟨h, _⟩ | ⟨_, h, _⟩
    · exact (R.grp l cs mt g b v hl h).1
    · omega
  have hbmx : b + cs.length ≤ mx := by
    rcases hg with ⟨h, h'⟩ | ⟨_, _, rfl, _, h⟩
    · obtain ⟨_, mm, e, hh⟩ := R.grp l cs mt g b v hl h
      rw [h'] at e; cases e; exact hh
    · omega
  have hgs : (st.grps.set g (some (v', mx'))).get g = some (v', mx') := T.get_set_same 24 _ _ _ R.deepg (by omega)
  have hgo : ∀ k, k ≠ g → (st.grps.set g (some (v', mx'))).get k = st.grps.get k := fun k hk => T.get_set_other _ _ _ _ hk
  have hf := R.fresh st.next (Nat.le_refl _)
  have hle : Rho.le ρ (ρ.upd st.next r') := Rho.le_upd hf
  have hwr : (AObj.cells cs mt).wr = true := by simp [AObj.wr, hro]
  have hNr : N ≤ r.b := by
    obtain ⟨_, h, _⟩ := R.obj l _ _ hl hr
    exact h hwr
  have hNs := R.size
  have hrbs := R.inb l r hr
  have hself : ∀ o2, Live (newObj (grownSt st l cs mt g b v v' mx') (.cells cs' m')).2 st.next o2 → o2 = .cells cs' m' := by
    intro o2 h2
    have := h2.1
    simp only [newObj, grownSt] at this
    rw [T.get_set_same 24 _ _ _ (T.deep_set _ _ _ _ R.deep) (by omega)] at this
    exact (Option.some.inj this).symm
  -- those that share the block
  have twin : ∀ l2 o2 r2, l2 ≠ l → Live st l2 o2 → o2.wr = true → ρ l2 = some r2 → r2.b = r.b → ∃ cs2 m2 b2, o2 = .cells cs2 m2 ∧ m2.al = some (g, b2, v) ∧ r2.o + b = r.o + b2 ∧ b2 + cs2.length ≤ mx ∧ mt.al = some (g, b, v) := by
    intro l2 o2 r2 hne h2 w2 e2 hb
    obtain ⟨cs1, m1, cs3, m3, g1, b1, v1, b3, v3, e3, e4, a3, a4, hoff⟩ := R.sep l2 l o2 (.cells cs mt) r2 r hne h2 hl w2 hwr e2 hr hb
    cases e4
    subst e3
    rcases hg with ⟨h, h'⟩ | ⟨h, _⟩
    · rw [h] at a4; cases a4
      obtain ⟨_, mm, e5, e6⟩ := R.grp l2 cs1 m1 g b1 v1 h2 a3
      rw [h'] at e5; cases e5
      exact ⟨cs1, m1, b1, rfl, a3, by omega, e6, h⟩
    · rw [h] at a4; cases a4
  constructor
  · constructor
    · omega
    · intro k hk; rw [hoth k (by omega) (by omega)]; exact R.fix k hk
    · rw [ht]; exact R.tape
    · rw [hos]; exact R.os
    · rw [hout]; exact R.output
    · intro k hk
      have hk : st.next + 1 ≤ k := hk
      rw [Rho.upd_other _ (by omega)]; exact R.fresh k (by omega)
    · intro k r2 h
      by_cases hkk : k = st.next
      · subst hkk; rw [Rho.upd_same] at h; cases h; exact hrb
      · rw [Rho.upd_other _ hkk] at h; have := R.inb k r2 h; omega
    · intro l2 o2 r2 h2 e2
      by_cases hll : l2 = st.next
      · subst hll
        rw [Rho.upd_same] at e2; cases e2
        have := hself o2 h2
        subst this
        refine ⟨hnew, fun _ => ?_, fun h => ?_⟩
        · rcases hblk with ⟨h, _⟩ | h <;> omega
        · simp [AObj.wr, hro'] at h
      · rw [Rho.upd_other _ hll] at e2
        rcases live_old R hl hr hg hv hll h2 with ⟨hne, hlive, hgr⟩ | ⟨rfl, rfl, hvv⟩
        · obtain ⟨hobj2, hN2, hr2⟩ := R.obj l2 o2 r2 hlive e2
          refine ⟨?_, hN2, hr2⟩
          by_cases hbb : r2.b = r.b
          · have hw2 : o2.wr = true := by
              cases h : o2.wr with
              | true => rfl
              | false => have := hr2 h; omega
            obtain ⟨cs2, m2, b2, rfl, ha2, hoff, hb2, _⟩ := twin l2 o2 r2 hne hlive hw2 e2 hbb
            obtain ⟨_, hvv, _⟩ := hgr cs2 m2 b2 v rfl ha2
            have := hpos hvv
            exact (hkeep r2 cs2 m2 hbb (by omega) hobj2).frame hle rfl
          · exact hobj2.frame hle (hoth _ (R.inb _ _ e2) hbb)
        · rw [hr] at e2; cases e2
          obtain ⟨hobj2, hN2, hr2⟩ := R.obj l2 _ _ hl hr
          have := hpos hvv
          exact ⟨((hkeep r cs mt rfl (by omega) hobj2).al (g, b, v)).frame hle rfl, fun _ => hNr, fun h => by simp [AObj.wr, hro] at h⟩
    · intro l1 l2 o1 o2 r1 r2 hne h1 h2 w1 w2 e1 e2 hb
      have one : ∀ l2 o2 r2, l2 ≠ st.next → Live (newObj (grownSt st l cs mt g b v v' mx') (.cells cs' m')).2 l2 o2 → o2.wr = true → ρ l2 = some r2 → r'.b = r2.b → Twins r' r2 (.cells cs' m') o2 ∧ Twins r2 r' o2 (.cells cs' m') := by
        intro l2 o2 r2 hne h2 w2 e2 hb
        have hb2 := R.inb _ _ e2
        rcases hblk with ⟨h3, h4⟩ | h3
        · rcases live_old R hl hr hg hv hne h2 with ⟨hne, hlive, _⟩ | ⟨rfl, rfl, hvv⟩
          · obtain ⟨cs2, m2, b2, rfl, ha2, hoff, _⟩ := twin l2 o2 r2 hne hlive w2 e2 (by omega)
            exact ⟨⟨cs', m', cs2, m2, g, b + o, v', b2, v, rfl, rfl, hal', ha2, by omega⟩, ⟨cs2, m2, cs', m', g, b2, v, b + o, v', rfl, rfl, ha2, hal', by omega⟩⟩
          · rw [hr] at e2; cases e2
            exact ⟨⟨cs', m', cs, _, g, b + o, v', b, v, rfl, rfl, hal', rfl, by omega⟩, ⟨cs, _, cs', m', g, b, v, b + o, v', rfl, rfl, rfl, hal', by omega⟩⟩
        · omega
      by_cases h1n : l1 = st.next
      · subst h1n
        rw [Rho.upd_same] at e1; cases e1
        rw [Rho.upd_other _ (fun h => hne h.symm)] at e2
        have := hself o1 h1
        subst this
        exact (one l2 o2 r2 (fun h => hne h.symm) h2 w2 e2 hb).1
      · rw [Rho.upd_other _ h1n] at e1
        by_cases h2n : l2 = st.next
        · subst h2n
          rw [Rho.upd_same] at e2; cases e2
          have := hself o2 h2
          subst this
          exact (one l1 o1 r1 h1n h1 w1 e1 hb.symm).2
        · rw [Rho.upd_other _ h2n] at e2
          rcases live_old R hl hr hg hv h1n h1 with ⟨hne1, hlive1, _⟩ | ⟨rfl, rfl, hvv1⟩
          · rcases live_old R hl hr hg hv h2n h2 with ⟨hne2, hlive2, _⟩ | ⟨rfl, rfl, hvv2⟩
            · exact R.sep l1 l2 o1 o2 r1 r2 hne hlive1 hlive2 w1 w2 e1 e2 hb
            · rw [hr] at e2; cases e2
              obtain ⟨cs2, m2, b2, rfl, ha2, hoff, _⟩ := twin l1 o1 r1 hne1 hlive1 w1 e1 hb
              exact ⟨cs2, m2, cs, _, g, b2, v, b, v, rfl, rfl, ha2, rfl, hoff⟩
          · rw [hr] at e1; cases e1
            rcases live_old R hl hr hg hv h2n h2 with ⟨hne2, hlive2, _⟩ | ⟨rfl, rfl, hvv2⟩
            · obtain ⟨cs2, m2, b2, rfl, ha2, hoff, _⟩ := twin l2 o2 r2 hne2 hlive2 w2 e2 hb.symm
              exact ⟨cs, _, cs2, m2, g, b, v, b2, v, rfl, rfl, rfl, ha2, hoff.symm⟩
            · exact absurd rfl hne
    · intro l2 cs2 m2 g2 b2 v2 h2 ha2
      by_cases hll : l2 = st.next
      · subst hll
        have := hself _ h2
        cases this
        rw [hal'] at ha2; cases ha2
        exact ⟨Nat.lt_succ_of_lt hglt, mx', hgs, hlen⟩
      · rcases live_old R hl hr hg hv hll h2 with ⟨hne, hlive, hgr⟩ | ⟨rfl, e, hvv⟩
        · obtain ⟨a1, mm, a2, a3⟩ := R.grp l2 cs2 m2 g2 b2 v2 hlive ha2
          refine ⟨Nat.lt_succ_of_lt a1, ?_⟩
          by_cases hgg : g2 = g
          · subst hgg
            obtain ⟨rfl, rfl, hmt⟩ := hgr cs2 m2 b2 v2 rfl ha2
            rcases hg with ⟨_, h'⟩ | ⟨h, _⟩
            · rw [h'] at a2; cases a2
              exact ⟨mx', hgs, by omega⟩
            · rw [h] at hmt; cases hmt
          · exact ⟨mm, (hgo g2 hgg).trans a2, a3⟩
        · cases e
          cases ha2
          subst hvv
          exact ⟨Nat.lt_succ_of_lt hglt, mx', hgs, by omega⟩
    · intro l2 cs2 m2 g2 b2 v2 h2 ha2
      simp only [newObj, grownSt] at h2
      by_cases hll : l2 = st.next
      · subst hll
        rw [T.get_set_same 24 _ _ _ (T.deep_set _ _ _ _ R.deep) (by omega)] at h2
        cases h2
        rw [hal'] at ha2; cases ha2
        exact ⟨v', mx', hgs, Nat.le_refl _⟩
      · rw [T.get_set_other _ _ _ _ hll] at h2
        by_cases hl2 : l2 = l
        · subst hl2
          rw [T.get_set_same 24 _ _ _ R.deep (by omega)] at h2
          cases h2; cases ha2
          exact ⟨v', mx', hgs, hv⟩
        · rw [T.get_set_other _ _ _ _ hl2] at h2
          obtain ⟨vv, mm, a1, a2⟩ := R.ver l2 cs2 m2 g2 b2 v2 h2 ha2
          by_cases hgg : g2 = g
          · subst hgg
            rcases hg with ⟨_, h'⟩ | ⟨h, rfl, _⟩
            · rw [h'] at a1; cases a1
              exact ⟨v', mx', hgs, by omega⟩
            · rw [R.grp0 g2 cs mt hl.1 h] at a1; cases a1
          · exact ⟨vv, mm, (hgo g2 hgg).trans a1, a2⟩
    · intro l2 cs2 m2 h2 ha2
      simp only [newObj, grownSt] at h2
      by_cases hll : l2 = st.next
      · subst hll
        rw [T.get_set_same 24 _ _ _ (T.deep_set _ _ _ _ R.deep) (by omega)] at h2
        cases h2
        rw [hal'] at ha2; cases ha2
      · rw [T.get_set_other _ _ _ _ hll] at h2
        by_cases hl2 : l2 = l
        · subst hl2
          rw [T.get_set_same 24 _ _ _ R.deep (by omega)] at h2
          cases h2; cases ha2
        · rw [T.get_set_other _ _ _ _ hl2] at h2
          have h0 := R.grp0 l2 cs2 m2 h2 ha2
          have hl2g : l2 ≠ g := by
            rintro rfl
            rcases hg with ⟨_, h'⟩ | ⟨_, h', _⟩
            · rw [h'] at h0; cases h0
            · exact hl2 h'
          exact (hgo l2 hl2g).trans h0
    · intro k hk
      have hk : st.next + 1 ≤ k := hk
      exact (hgo k (by omega)).trans (R.grpn k (by omega))
    · intro k hk
      have hk : st.next + 1 ≤ k := hk
      simp only [newObj, grownSt]
      rw [T.get_set_other _ _ _ _ (by omega), T.get_set_other _ _ _ _ (by omega)]
      exact R.hpn k (by omega)
    · exact T.deep_set _ _ _ _ (T.deep_set _ _ _ _ R.deep)
    · exact T.deep_set _ _ _ _ R.deepg
    · show st.next + 1 ≤ 1000002; omega
  · refine ⟨hle, hsz, Nat.le_succ _, fun k hk => Rho.upd_other _ (Nat.ne_of_lt hk), fun k hk hW => ?_⟩
    have hkr : k ≠ r.b := fun h => hW ⟨l, r, _, hr, hl, hwr, h.symm⟩
    refine ⟨hoth k hk hkr, ?_⟩
    rintro ⟨l2, r2, o2, e2, h2, w2, rfl⟩
    by_cases hll : l2 = st.next
    · subst hll; rw [Rho.upd_same] at e2; cases e2
      rcases hblk with ⟨h, _⟩ | h
      · exact hkr h
      · omega
    · rw [Rho.upd_other _ hll] at e2
      rcases live_old R hl hr hg hv hll h2 with ⟨_, hlive, _⟩ | ⟨rfl, rfl, _⟩
      · exact hW ⟨l2, r2, o2, e2, hlive, w2, rfl⟩
      · rw [hr] at e2; cases e2; exact hkr rfl
end

end Go.Abs

/- Appends where it is not known whether there is room. -/
namespace Go.Abs
variable {V : Val} {N : Nat} {w0 w w' : World} {ρ : Rho} {st st' : St} {E : Env}

theorem room_core (R : Rel V N w0 ρ st w) {ts : Array TypeId} {sT elem : TypeId} (tp : TypeId) {size n l o m len g b v mx mcap o' : Nat} {cs old new : List AV} {mt : Meta} {r : Base} {x : Value} {xs : List Value} {i : TypeInfo} {z : Value}
    (hsT : ts[0]? = some sT) (hu : und E sT = some (.slice elem)) (hi : E.P.info? elem = some i) (hz : i.zero = some z) (hzs : z.cells.size = i.size) (hsi : i.size = size)
    (hx : AppSrc E w ts x elem size n xs) (hnew : concs V ρ new = some xs) (hlen : new.length = n * size) (hn : n ≠ 0) (hsmall : (len + n) * (i.bytes + 1) ≤ 100000000)
    (hl : Live st l (.cells cs mt)) (hr : ρ l = some r) (hro : mt.ro = false) (helem : mt.elem = elem) (hgrow : mt.grow = some size) (ho : o = m * size) (hfz : mt.fz ≤ o + len * size) (hcs : o + len * size ≤ cs.length) (hone : new.all AV.oneCell = true)
    (hold : readN cs o (len * size) = some old) (hg : GrpOf st l cs mt g b v mx) (hm : m + len ≤ r.cap) (hmcap : mcap = r.cap - m) (ho' : o' = o ∨ (mcap = 0 ∧ len = 0)) :
    VRes E V N w0 ρ st w (Builtin.append_ ts tp #[.slice (some ⟨r.b, r.o + o', none⟩) len mcap, x])
      (grown (grownSt st l cs mt g b v (bif Nat.ble mx (b + o + len * size) then v else v + 1) (max mx (b + o + len * size + new.length))) (old ++ new)
        { elem, fz := mt.fz - o, sm := mt.sm, grow := some size, al := some (g, b + o, bif Nat.ble mx (b + o + len * size) then v else v + 1) } (len + n)) := by
  subst hsi
  unfold grown
  refine VRes.bif (fun hnx0 => ?_) fun _ => trivial
  have hnx : st.next < 1000002 := next_lt (st := st) hnx0
  clear hnx0
  have hv : v ≤ (bif Nat.ble mx (b + o + len * i.size) then v else v + 1) := by
    cases Nat.ble mx (b + o + len * i.size) <;> simp
  have hpos : (bif Nat.ble mx (b + o + len * i.size) then v else v + 1) = v → mx ≤ b + (o + len * i.size) := by
    cases h : Nat.ble mx (b + o + len * i.size)
    · simp
    · intro _; have := ble h; omega
  generalize (bif Nat.ble mx (b + o + len * i.size) then v else v + 1) = v' at hv hpos
  have hxl := concs_length _ _ hnew
  obtain ⟨hol, hog⟩ := readN_sound cs o (len * i.size) old hold
  obtain ⟨⟨carr, fr, h1, h2, h3, h4, h5, h6, _⟩, _⟩ := R.obj l _ _ hl hr
  have h6 := h6 i.size hgrow
  obtain ⟨h51, h52⟩ := h5 hro
  rw [elemT_rw hro] at h1
  have hblt := heap_lt h1
  have hle : Rho.le ρ (ρ.upd st.next ⟨0, 0, 0, 0⟩) := Rho.le_upd (R.fresh _ (Nat.le_refl _))
  by_cases hroom : len + n ≤ mcap
  · -- in place
    have hoo : o' = o := by
      rcases ho' with h | ⟨h, h'⟩
      · exact h
      · omega
    subst hoo
    have hmul : (len + n) * i.size ≤ mcap * i.size := Nat.mul_le_mul_right _ hroom
    have hcapmul : r.cap * i.size = m * i.size + mcap * i.size := by rw [hmcap, ← Nat.add_mul]; congr 1; omega
    have hexp : (len + n) * i.size = len * i.size + n * i.size := Nat.add_mul _ _ _
    obtain ⟨w', e1, e2, e3, e4, e5⟩ := run_storeCells (P := E.P) xs (r.o + o' + len * i.size) 0 w carr h1 (by omega) (fun j a b => h51 j (by omega) (by omega)) (concs_all_oneCell hnew hone)
    simp only [Nat.add_zero] at e1 e2
    have hrun := run_append_in (tp := tp) (base := some ⟨r.b, r.o + o', none⟩) hsT hu (by simp [Abs.sizeOf, hi]) hx hroom (w' := w') (by
      show Sem.run E.P (storeCells (Addr.add ⟨r.b, r.o + o', none⟩ (len * i.size)) xs) w = .ok () w'
      rw [Addr.add_eq]; exact e1)
    have hheap : w'.heap[r.b]? = some (.cells (putAt carr (r.o + o' + len * i.size) xs) mt.elem fr) := by
      rw [e2, Array.getElem?_setIfInBounds, if_pos rfl, if_pos hblt]
    have hle' : Rho.le ρ (ρ.upd st.next ⟨r.b, r.o + o', r.e, mcap⟩) := Rho.le_upd (R.fresh _ (Nat.le_refl _))
    have hgw := R.grow (cs' := old ++ new) (m' := { elem, fz := mt.fz - o', sm := mt.sm, grow := some i.size, al := some (g, b + o', v') }) (r' := ⟨r.b, r.o + o', r.e, mcap⟩) (o := o') (p := o' + len * i.size) (mx' := max mx (b + o' + len * i.size + new.length)) hl hro hr hg hv (by omega) hpos hnx (w' := w') (by rw [e2]; simp) (by rw [e2]; simpa using hblt)
      (fun k _ hk => by rw [e2, Array.getElem?_setIfInBounds, if_neg (fun h => hk h.symm)]) e3 e4 e5 ?_ ?_ (.inl ⟨rfl, rfl⟩) (by simp only [List.length_append, hol]; omega) rfl rfl
    · exact ⟨w', _, _, hrun, by
        have := conc_rel (V := V) (Rho.upd_same (ρ := ρ) st.next ⟨r.b, r.o + o', r.e, mcap⟩) (len + n) 0 0 (by simpa using hroom)
        have h : conc V (ρ.upd st.next ⟨r.b, r.o + o', r.e, mcap⟩) (.slice (some (st.next, 0)) (.lit ((len + n : Nat) : Int)) (.rel 0)) = some (.slice (some ⟨r.b, r.o + o', none⟩) (len + n) mcap) := by simpa using this
        exact h, hgw.1, hgw.2, rfl⟩
    · rintro r2 cs2 m2 hb hp ⟨carr2, fr2, k1, k2, k3, k4, k5⟩
      rw [hb, h1] at k1
      simp only [Option.some.injEq, Obj.cells.injEq] at k1
      obtain ⟨rfl, ke, rfl⟩ := k1
      refine ⟨_, fr, by rw [hb, hheap, ke], by rw [size_putAt]; exact k2, k3, fun j u hj => ?_, k5⟩
      obtain ⟨y, hy, hyj⟩ := k4 j u hj
      refine ⟨y, hy, ?_⟩
      have hj' := (List.getElem?_eq_some_iff.1 hj).1
      rw [get_putAt xs carr _ _ (by omega), if_neg (by omega)]
      exact hyj
    · refine ⟨_, fr, by rw [hheap, helem]; rfl, by rw [size_putAt]; exact h2, by simp only [List.length_append, hol]; omega, fun j u hj => ?_, ?_, ?_, fun h => by cases h⟩
      · show ∃ y, conc V (ρ.upd st.next ⟨r.b, r.o + o', r.e, mcap⟩) u = some y ∧ (putAt carr (r.o + o' + len * i.size) xs)[r.o + o' + j]? = some y
        rw [get_putAt xs carr _ _ (by omega)]
        by_cases hjl : j < len * i.size
        · rw [List.getElem?_append_left (by omega)] at hj
          obtain ⟨y, hy, hyj⟩ := h4 (o' + j) u (hog j u hj)
          refine ⟨y, conc_mono hle' u y hy, ?_⟩
          rw [if_neg (by omega), show r.o + o' + j = r.o + (o' + j) from by omega]; exact hyj
        · rw [List.getElem?_append_right (by omega), hol] at hj
          obtain ⟨y, hy, hyj⟩ := concs_get new xs hnew _ u hj
          refine ⟨y, conc_mono hle' u y hy, ?_⟩
          have := (List.getElem?_eq_some_iff.1 hyj).1
          rw [if_pos (by omega), show r.o + o' + j - (r.o + o' + len * i.size) = j - len * i.size from by omega]; exact hyj
      · intro _
        refine ⟨fun j a1 a2 => h51 j ?_ a2, fun hsm => ?_⟩
        · have a1 : r.o + o' + (mt.fz - o') ≤ j := a1
          omega
        · rcases h52 hsm with h | h
          · exact .inl h
          · refine .inr ⟨h.1, ?_⟩
            show fr.2 ≤ r.o + o' + (mt.fz - o')
            omega
      · intro sz hsz
        simp only [Option.some.injEq] at hsz; subst hsz
        show r.e = r.o + o' + mcap * i.size
        omega
  · -- a new row
    have holdc : concs V ρ old = some ((carr.toList.drop (r.o + o)).take (len * i.size)) := by
      refine concs_ext _ _ ?_ fun j u hj => ?_
      · simp only [List.length_take, List.length_drop, Array.length_toList, h2, hol]; omega
      · obtain ⟨y, hy, hyj⟩ := h4 (o + j) u (hog j u hj)
        refine ⟨y, hy, ?_⟩
        have hj' := (List.getElem?_eq_some_iff.1 hj).1
        rw [List.getElem?_take, if_pos (by omega), List.getElem?_drop, Array.getElem?_toList, show r.o + o + j = r.o + (o + j) from by omega]; exact hyj
    obtain ⟨cap, rest, g1, g2, g3⟩ := run_append_grow (tp := tp) (base := some ⟨r.b, r.o + o', none⟩) (sLen := len) (sCap := mcap) (old := (carr.toList.drop (r.o + o)).take (len * i.size)) hsT hu hi hz hzs hx (by omega) hsmall (fun w2 hw => by
      rcases ho' with rfl | ⟨_, h0⟩
      · have := run_loadCells (P := E.P) (w := w2) (b := r.b) (o := r.o + o') ((carr.toList.drop (r.o + o')).take (len * i.size)) (fun j y hj => by
          rw [cell_same hw, cell?_of_block h1, ← Array.getElem?_toList, ← List.getElem?_drop]
          rw [List.getElem?_take] at hj
          split at hj
          · exact hj
          · cases hj)
        rw [show ((carr.toList.drop (r.o + o')).take (len * i.size)).length = len * i.size from by simp only [List.length_take, List.length_drop, Array.length_toList, h2]; omega] at this
        exact this
      · subst h0
        simp [Builtin.firstCells, loadCells, loadCellsFrom])
    generalize ((carr.toList.drop (r.o + o)).take (len * i.size)) = oxs at holdc g3
    have hoxl := concs_length _ _ holdc
    let w2 : World := ({ w with drawn := w.drawn + 1 } : World).alloc (.cells (oxs ++ xs ++ rest).toArray elem)
    have hheap : ∀ k, k < w.heap.size → w2.heap[k]? = w.heap[k]? := by
      intro k hk
      show (w.heap.push _)[k]? = _
      rw [Array.getElem?_push, if_neg (by omega)]
    have hsize : w2.heap.size = w.heap.size + 1 := by show (w.heap.push _).size = _; simp
    have hle' : Rho.le ρ (ρ.upd st.next ⟨w.heap.size, 0, (oxs ++ xs ++ rest).length, cap⟩) := Rho.le_upd (R.fresh _ (Nat.le_refl _))
    have hgw := R.grow (cs' := old ++ new) (m' := { elem, fz := mt.fz - o, sm := mt.sm, grow := some i.size, al := some (g, b + o, v') }) (r' := ⟨w.heap.size, 0, (oxs ++ xs ++ rest).length, cap⟩) (o := o) (p := o + len * i.size) (mx' := max mx (b + o + len * i.size + new.length)) hl hro hr hg hv (by omega) hpos hnx (w' := w2) (by omega) (by show w.heap.size < w2.heap.size; omega)
      (fun k hk _ => hheap k hk) rfl rfl rfl (fun r2 cs2 m2 hb _ h => h.frame (Rho.le_refl ρ) (by rw [hb]; exact hheap _ hblt)) ?_ (.inr (Nat.le_refl _)) (by simp only [List.length_append, hol]; omega) rfl rfl
    · exact ⟨w2, _, _, g3, by
        have := conc_rel (V := V) (Rho.upd_same (ρ := ρ) st.next ⟨w.heap.size, 0, (oxs ++ xs ++ rest).length, cap⟩) (len + n) 0 0 (by simpa using g1)
        have h : conc V (ρ.upd st.next ⟨w.heap.size, 0, (oxs ++ xs ++ rest).length, cap⟩) (.slice (some (st.next, 0)) (.lit ((len + n : Nat) : Int)) (.rel 0)) = some (.slice (some ⟨w.heap.size, 0, none⟩) (len + n) cap) := by simpa using this
        exact h, hgw.1, hgw.2, rfl⟩
    · have hcc : concs V ρ (old ++ new) = some (oxs ++ xs) := by rw [concs_append, holdc, hnew]; rfl
      refine ⟨(oxs ++ xs ++ rest).toArray, (0, 0), ?_, by simp, by simp only [List.length_append, hoxl, hxl]; omega, (concs_cellsAt hcc).mono hle', fun _ => ⟨fun j _ _ => by omega, fun _ => .inl rfl⟩, fun sz hsz => ?_, fun h => by cases h⟩
      · show (w.heap.push _)[w.heap.size]? = _
        simp [elemT]
      · simp only [Option.some.injEq] at hsz; subst hsz
        show (oxs ++ xs ++ rest).length = 0 + cap * i.size
        have := Nat.mul_le_mul_right i.size g1
        have hexp : (len + n) * i.size = len * i.size + n * i.size := Nat.add_mul _ _ _
        simp only [List.length_append, hoxl, hxl, hol, hlen, g2, Nat.sub_mul]
        omega

theorem append_sound (hZ : EnvZ E) (R : Rel V N w0 ρ st w) {ts : Array TypeId} {sT elem : TypeId} (tp : TypeId) {size bytes n : Nat} {s : AV} {cs x : Value} {new : List AV} {xs : List Value} (hsT : ts[0]? = some sT) (hu : und E sT = some (.slice elem))
    (hsz : Abs.sizeOf E elem = some size) (hby : (E.P.info? elem).map (·.bytes) = some bytes) (hs : conc V ρ s = some cs) (hx : AppSrc E w ts x elem size n xs) (hnew : concs V ρ new = some xs) (hlen : new.length = n * size) :
    VRes E V N w0 ρ st w (Builtin.append_ ts tp #[cs, x]) (appendA E st elem size bytes s new n) := by
  refine append_known hZ R tp hsT hu hsz hby hs hx hnew hlen ?_
  rintro l o len cap m rfl hcap hn hsmall
  obtain ⟨i, z, hi, hz, hzs⟩ := hZ.slice sT elem hu
  have hsi : size = i.size := by simp only [Abs.sizeOf, hi, Option.map_some, Option.some.injEq] at hsz; exact hsz.symm
  have hbi : bytes = i.bytes := by simp only [hi, Option.map_some, Option.some.injEq] at hby; exact hby.symm
  subst hbi
  obtain ⟨hn0, r, o', mcap, hr, rfl, _, _, hrel, hend, _⟩ := concSliceLit hs
  have hfacts : m + len.toNat ≤ r.cap ∧ mcap = r.cap - m ∧ (o' = o ∨ (mcap = 0 ∧ len.toNat = 0)) := by
    rcases hcap with h | ⟨o0, h⟩
    · obtain ⟨a1, a2, a3⟩ := hrel m h
      exact ⟨by omega, a2, .inl a3⟩
    · obtain ⟨a1, a2, a3, a4⟩ := hend m o0 h
      refine ⟨by omega, a3, ?_⟩
      by_cases hc : r.cap = m
      · exact .inr ⟨by omega, by omega⟩
      · exact .inl (a4 hc)
  obtain ⟨f1, f2, f3⟩ := hfacts
  unfold unknownRoom
  split
  · rename_i cells mt hg
    refine VRes.bif (fun hb => ?_) fun _ => trivial
    simp only [Bool.and_eq_true, Bool.not_eq_true', decide_eq_true_eq] at hb
    obtain ⟨⟨⟨⟨⟨⟨⟨b1, b2⟩, b0⟩, b3⟩, b4⟩, b5⟩, b6⟩, b7⟩ := hb
    have hl : Live st l (.cells cells mt) := ⟨hg, fun cs2 m2 e => by cases e; exact b2⟩
    split
    · trivial
    · rename_i old hold
      dsimp only
      cases hal : mt.al with
      | none =>
        simp only
        exact room_core R tp hsT hu hi hz hzs hsi.symm hx hnew hlen hn hsmall hl hr b1 (beqt b0) b3 (beqt b4) (ble b5) (ble b6) b7 hold (.inr ⟨hal, rfl, rfl, rfl, rfl⟩) f1 f2 f3
      | some q =>
        obtain ⟨g, b, v⟩ := q
        simp only
        rw [hal] at b2
        simp only [valid] at b2
        split at b2
        · rename_i v' mx hgr
          have hv := beqt b2
          subst hv
          rw [hgr]
          simp only [Option.map_some, Option.getD_some]
          exact room_core R tp hsT hu hi hz hzs hsi.symm hx hnew hlen hn hsmall hl hr b1 (beqt b0) b3 (beqt b4) (ble b5) (ble b6) b7 hold (.inl ⟨hal, hgr⟩) f1 f2 f3
        · cases b2
  · trivial

end Go.Abs

/- Copies, clearings, conversions, strings of rows. -/
namespace Go.Abs
variable {V : Val} {N : Nat} {w0 w w' : World} {ρ : Rho} {st st' : St} {E : Env}

def copyA (E : Env) (st : St) (ts : Array TypeId) (base : Option (Nat × Nat)) (d : Int) (x : AV) : OpRes := (match (ts[0]?).bind (und E) with
    | some (.slice elem) => (match sizeOf E elem with
      | some size => (match sliceCells st x size with
        | some new =>
          let n := min (new.length / size) d.toNat
          bif Nat.beq size 0 then .bad "copy" else
          (match base with
          | none => .val (.int .i64 (.lit n)) st
          | some (l, o) => bif Nat.beq n 0 then .val (.int .i64 (.lit 0)) st else
            (match wrCells st l o (new.take (n * size)) with
            | some st => .val (.int .i64 (.lit n)) st
            | none => .bad "copy"))
        | none => .bad "copy")
      | none => .bad "copy")
    | _ => .bad "copy")

theorem concs_take {vs : List AV} {xs : List Value} (h : concs V ρ vs = some xs) (k : Nat) : concs V ρ (vs.take k) = some (xs.take k) := by
  have hl := concs_length _ _ h
  refine concs_ext _ _ (by simp [hl]) fun i v hv => ?_
  rw [List.getElem?_take] at hv
  split at hv
  · rename_i hi
    obtain ⟨y, hy, hyi⟩ := concs_get vs xs h i v hv
    exact ⟨y, hy, by rw [List.getElem?_take, if_pos hi]; exact hyi⟩
  · cases hv

theorem bindUnd {ts : Array TypeId} {i : Nat} {d : TypeDesc} (h : (ts[i]?).bind (und E) = some d) : ∃ t, ts[i]? = some t ∧ und E t = some d := by
  simpa [Option.bind_eq_some_iff] using h

theorem run_copy {ts : Array TypeId} {tp t elem : TypeId} {base : Option Addr} {dLen c size n : Nat} {x : Value} {xs : List Value} (ht : ts[0]? = some t) (hu : und E t = some (.slice elem)) (hsz : Abs.sizeOf E elem = some size)
    (hl : (Builtin.lenOf x).run E.P w = .ok n w) (hf : (Builtin.firstCells size (min n dLen) x).run E.P w = .ok xs.toArray w) (hs : (match base with | some a => storeCells a xs | none => pure ()).run E.P w = .ok () w') :
    (Builtin.copy_ ts tp #[.slice base dLen c, x]).run E.P w = .ok (goInt (min n dLen : Nat)) w' := by
  have h0 : (#[Value.slice base dLen c, x] : Array Value)[0]? = some (.slice base dLen c) := rfl
  have h1 : (#[Value.slice base dLen c, x] : Array Value)[1]? = some x := rfl
  have hf' : (Builtin.firstCells size (Nat.min n dLen) x).run E.P w = .ok xs.toArray w := hf
  simp only [Builtin.copy_, ht, h0, h1, Sem.run_bind, run_und hu, Result.andThen_ok, hl, run_size hsz, hf']
  cases base with
  | none =>
    simp only [Sem.run_pure] at hs
    injection hs with _ e; rw [e]; rfl
  | some a =>
    simp only [List.toList_toArray, Sem.run_bind] at hs ⊢
    rw [hs]; rfl

theorem copy_sound (R : Rel V N w0 ρ st w) (ts : Array TypeId) (tp : TypeId) {base : Option (Nat × Nat)} {d : Int} {cap : ACap} {x : AV} {cd cx : Value} (hd : conc V ρ (.slice base (.lit d) cap) = some cd) (hx : conc V ρ x = some cx) :
    VRes E V N w0 ρ st w (Builtin.copy_ ts tp #[cd, cx]) (copyA E st ts base d x) := by
  unfold copyA
  split
  · rename_i elem hb
    obtain ⟨t, ht, hu⟩ := bindUnd hb
    split
    · rename_i size hsz
      split
      · rename_i new hnew
        obtain ⟨n, xs, g1, g2, g3, g4⟩ := srcCells_sound R hnew hx
        dsimp only
        refine VRes.bif (fun _ => trivial) fun hs0 => ?_
        have hs0 : 0 < size := by
          rcases Nat.eq_zero_or_pos size with h | h
          · subst h; cases hs0
          · exact h
        have hdiv : new.length / size = n := by rw [g2]; exact Nat.mul_div_cancel n hs0
        rw [hdiv]
        cases base with
        | none =>
          cases cap <;> simp only [conc, reduceCtorEq] at hd
          split at hd <;> simp only [Option.some.injEq, reduceCtorEq] at hd
          subst hd
          exact VRes.pure R (cv := goInt (min n d.toNat : Nat)) (run_copy (dLen := d.toNat) ht hu hsz (g1 w) (g4 (min n d.toNat) (Nat.min_le_left _ _) w rfl) rfl) rfl
        | some q =>
          obtain ⟨l, o⟩ := q
          obtain ⟨hd0, r, o', m, hr, rfl, ho, _⟩ := concSliceLit hd
          have hf := g4 (min n d.toNat) (Nat.min_le_left _ _) w rfl
          refine VRes.bif (fun hn => ?_) fun hn => ?_
          · have hn := beqt hn
            have := run_copy (tp := tp) (c := m) (base := some ⟨r.b, r.o + o', none⟩) ht hu hsz (g1 w) hf (w' := w) (by rw [hn, Nat.zero_mul]; rfl)
            rw [hn] at this
            exact VRes.pure R this rfl
          · have hn : min n d.toNat ≠ 0 := fun h => by rw [h] at hn; cases hn
            have hoo : o' = o := by
              rcases ho with h | h
              · exact h
              · subst h; simp at hn
            subst hoo
            split
            · rename_i st' hw
              obtain ⟨r', w', hr', e1, e2, e3, e4⟩ := wrCells_sound E.P R hr hw (concs_take g3 _)
              rw [hr] at hr'; cases hr'
              exact ⟨w', ρ, goInt (min n d.toNat : Nat), run_copy (base := some ⟨r.b, r.o + o', none⟩) ht hu hsz (g1 w) hf e1, rfl, e2, e3, e4⟩
            · trivial
      · trivial
    · trivial
  · trivial

def clearA (E : Env) (st : St) (ts : Array TypeId) (b : Option (Nat × Nat)) (n : Int) : OpRes := (match (ts[0]?).bind (und E) with
    | some (.slice elem) => bif n == 0 then .val (.tuple []) st else (match b, zeroCellsN E elem n.toNat with
      | some (l, o), some z => (match wrCells st l o z with
        | some st => .val (.tuple []) st
        | none => .bad "clear")
      | _, _ => .bad "clear")
    | _ => .bad "clear")

theorem clear_sound (hZ : EnvZ E) (R : Rel V N w0 ρ st w) (ts : Array TypeId) (tp : TypeId) {b : Option (Nat × Nat)} {n : Int} {cap : ACap} {cx : Value} (hx : conc V ρ (.slice b (.lit n) cap) = some cx) :
    VRes E V N w0 ρ st w (Builtin.clear_ ts tp #[cx]) (clearA E st ts b n) := by
  unfold clearA
  split
  · rename_i elem hb
    obtain ⟨t, ht, hu⟩ := bindUnd hb
    have h0 : (#[cx] : Array Value)[0]? = some cx := rfl
    have hcx : ∃ a m, cx = .slice a n.toNat m := by
      cases b with
      | none =>
        cases cap <;> simp only [conc, reduceCtorEq] at hx
        split at hx <;> simp only [Option.some.injEq, reduceCtorEq] at hx
        exact ⟨_, _, hx.symm⟩
      | some q =>
        obtain ⟨l, o⟩ := q
        obtain ⟨_, r, o', m, _, rfl, _⟩ := concSliceLit hx
        exact ⟨_, _, rfl⟩
    refine VRes.bif (fun hn => ?_) fun hn => ?_
    · have hn : n = 0 := by simpa using hn
      subst hn
      obtain ⟨a, m, rfl⟩ := hcx
      refine VRes.pure R (cv := .tuple #[]) ?_ rfl
      simp only [Builtin.clear_, ht, h0, Sem.run_bind, run_und hu, Result.andThen_ok]
      cases a <;> rfl
    · have hn : n ≠ 0 := by simpa using hn
      split
      · rename_i l o z hz
        split
        · rename_i st' hw
          obtain ⟨hn0, r, o', m, hr, rfl, ho, _⟩ := concSliceLit hx
          have hoo : o' = o := by
            rcases ho with h | h
            · exact h
            · exact absurd h hn
          subst hoo
          obtain ⟨i, c, hi, hc, hsz, hcc⟩ := zeroCellsN_sound (V := V) (ρ := ρ) hZ hz
          obtain ⟨r', w', hr', e1, e2, e3, e4⟩ := wrCells_sound E.P R hr hw hcc
          rw [hr] at hr'; cases hr'
          refine ⟨w', ρ, .tuple #[], ?_, rfl, e2, e3, e4⟩
          obtain ⟨k, hk⟩ : ∃ k, n.toNat = k + 1 := ⟨n.toNat - 1, by omega⟩
          rw [hk] at h0 e1 ⊢
          have hzv : (zeroValue elem).run E.P w = .ok c w := by simp [zeroValue, run_info hi, hc]
          simp only [Builtin.clear_, ht, h0, Sem.run_bind, run_und hu, Result.andThen_ok, hzv]
          unfold Builtin.zeroCells
          rw [e1]
          rfl
        · trivial
      · trivial
  · trivial

/-! ### Conversions -/
theorem bytesOf_conc (hE : EnvOK E V) : ∀ (cs : List AV) (s : List SI), bytesOf E cs = some s → bytesOK V s ∧ concs V ρ cs = some ((bytesL V s).map fun b => Value.int .u8 b.toNat) ∧ cs.length = s.length
  | [], s, h => by simp only [bytesOf, Option.some.injEq] at h; subst h; exact ⟨by simp [bytesOK], rfl, rfl⟩
  | v :: r, s, h => by
    cases v <;> (try (simp [bytesOf] at h; done))
    rename_i k b
    cases k <;> (try (simp [bytesOf] at h; done))
    · simp only [bytesOf] at h
      cases hb : byteIn E b <;> rw [hb] at h <;> simp only [cond, reduceCtorEq, Option.map_eq_some_iff] at h
      obtain ⟨u, hu, rfl⟩ := h
      obtain ⟨h1, h2, h3⟩ := bytesOf_conc hE r u hu
      have hbnd : 0 ≤ b.I V ∧ b.I V < 256 := by
        unfold byteIn at hb
        split at hb
        · rename_i lo hi hbd
          have := bnd_sound hE b lo hi hbd
          simp only [Bool.and_eq_true, decide_eq_true_eq] at hb
          omega
        · cases hb
      refine ⟨fun e he => ?_, ?_, by simp [h3]⟩
      · rcases List.mem_cons.1 he with rfl | he
        · exact hbnd
        · exact h1 e he
      · simp only [concs, conc, h2, Option.bind_some, Option.map_some, bytesL, List.map_cons]
        congr 3
        simp; omega

theorem run_bytesToString {P : Program} {a : Addr} {n c : Nat} (l : List UInt8) (h : (loadCells a n).run P w = .ok (l.map fun b => Value.int .u8 b.toNat).toArray w) : (Conv.bytesToString (.slice (some a) n c)).run P w = .ok (.string ⟨l.toArray⟩) w := by
  have key : ∀ (f : Value → ByteArray → Sem (ForInStep ByteArray)), (∀ n s, f (.int .u8 n) s = pure (ForInStep.yield (s.push (UInt8.ofNat n.toNat)))) → ∀ (l : List UInt8) (acc : ByteArray), (forIn (l.map fun b => Value.int .u8 (b.toNat : Int)) acc f).run P w = .ok ⟨acc.data ++ l.toArray⟩ w := by
    intro f hf l
    induction l with
    | nil => intro acc; simp
    | cons b l ih =>
      intro acc
      simp only [List.map_cons, List.forIn_cons, hf, Sem.run_bind, Sem.run_pure, Result.andThen_ok]
      rw [ih]
      congr 1
      apply ByteArray.ext
      simp [ByteArray.push]
  simp only [Conv.bytesToString, Sem.run_bind, h, Result.andThen_ok]
  rw [← Array.forIn_toList]
  simp only [List.toList_toArray]
  rw [key _ (fun n s => rfl) l ByteArray.empty]
  simp

end Go.Abs

/- Conversions; strings of rows; what is built in. -/
namespace Go.Abs
variable {V : Val} {N : Nat} {w0 w w' : World} {ρ : Rho} {st st' : St} {E : Env}

theorem World.freeze_heap (w : World) (b o n : Nat) (hn : n ≠ 0) {c : Array Value} {e : TypeId} {fr : Nat × Nat} (h : w.heap[b]? = some (.cells c e fr)) :
    (w.freeze ⟨b, o, none⟩ n).heap = w.heap.setIfInBounds b (.cells c e (if fr.1 == fr.2 then (o, o + n) else (min fr.1 o, max fr.2 (o + n)))) := by
  have hb := heap_lt h
  unfold World.freeze
  rw [if_neg hn]
  apply Array.ext_getElem?
  intro j
  simp only [Array.getElem?_modify, Array.getElem?_setIfInBounds]
  by_cases hj : b = j
  · subst hj
    rw [if_pos rfl, if_pos rfl, if_pos hb, h]
    obtain ⟨lo, hi⟩ := fr
    rfl
  · rw [if_neg hj, if_neg hj]

theorem freeze_world (w : World) (a : Addr) (n : Nat) : (w.freeze a n).tape = w.tape ∧ (w.freeze a n).os = w.os ∧ (w.freeze a n).output = w.output := by
  unfold World.freeze; split <;> exact ⟨rfl, rfl, rfl⟩

/-- The head of a row is shared with a string. -/
theorem freeze_sound (R : Rel V N w0 ρ st w) {l n : Nat} {cs : List AV} {m m' : Meta} {gr : T (Nat × Nat)} {r : Base} (hl : Live st l (.cells cs m)) (hr : ρ l = some r) (hro : m.ro = false) (hsm : m.sm = false) (hn : n ≠ 0) (hcl : claim st m = some (m', gr)) :
    Rel V N w0 ρ { st with heap := st.heap.set l (some (.cells cs { m' with fz := max m.fz n })), grps := gr } (w.freeze ⟨r.b, r.o, none⟩ n) ∧ Ext ρ st w ρ { st with heap := st.heap.set l (some (.cells cs { m' with fz := max m.fz n })), grps := gr } (w.freeze ⟨r.b, r.o, none⟩ n) := by
  obtain ⟨⟨carr, fr, h1, h2, h3, h4, h5, h6, h7⟩, _⟩ := R.obj l _ _ hl hr
  have hblt := heap_lt h1
  rw [elemT_rw hro] at h1
  have hfz := World.freeze_heap w r.b r.o n hn h1
  obtain ⟨g1, g2, g3⟩ := freeze_world w ⟨r.b, r.o, none⟩ n
  obtain ⟨h51, h52⟩ := h5 hro
  obtain ⟨f1, f2, f3, f4, f5, f55, f6, f7, f8, f9, f10, f11, f12, f13⟩ := claim_spec (st' := { st with heap := st.heap.set l (some (.cells cs { m' with fz := max m.fz n })), grps := gr }) R hl hro hcl hr (.cells cs { m' with fz := max m.fz n }) rfl rfl
  have hlt := R.lt hr
  have hsmall := R.small
  have hself : (st.heap.set l (some (.cells cs { m' with fz := max m.fz n }))).get l = some (.cells cs { m' with fz := max m.fz n }) := T.get_set_same 24 _ _ _ R.deep (by omega)
  refine R.upd (o' := .cells cs { m' with fz := max m.fz n }) hl (by simp [AObj.wr, hro]) hr rfl rfl (by simp [AObj.wr, f2, hro]) (by rw [hfz]; simp) (fun b hb => by rw [hfz, Array.getElem?_setIfInBounds, if_neg (fun h => hb h.symm)]) g1 g2 g3 ?_ f7 ?_ ?_ ?_ f12 f13
  · refine ⟨carr, _, by rw [hfz, Array.getElem?_setIfInBounds, if_pos rfl, if_pos hblt, elemT_rw (show ({ m' with fz := max m.fz n } : Meta).ro = false from f2.trans hro), f1], h2, h3, h4, fun _ => ⟨fun j a1 a2 => ?_, fun _ => ?_⟩, by rw [f5]; exact h6, fun h => h7 (f55 h)⟩
    · have a1 : r.o + max m.fz n ≤ j := a1
      split
      · rintro ⟨b1, b2⟩
        have b2 : j < r.o + n := b2
        omega
      · rename_i hne
        have hne : fr.1 ≠ fr.2 := by simpa using hne
        have hle : fr.2 ≤ r.o + m.fz := by
          rcases h52 hsm with h | h
          · exact absurd h hne
          · exact h.2
        rintro ⟨b1, b2⟩
        have b2 : j < max fr.2 (r.o + n) := b2
        omega
    · split
      · refine .inr ⟨?_, ?_⟩
        · show r.o < r.o + n
          omega
        · show r.o + n ≤ r.o + max m.fz n
          omega
      · rename_i hne
        have hne : fr.1 ≠ fr.2 := by simpa using hne
        have hle : fr.2 ≤ r.o + m.fz := by
          rcases h52 hsm with h | h
          · exact absurd h hne
          · exact h.2
        refine .inr ⟨?_, ?_⟩
        · show min fr.1 r.o < max fr.2 (r.o + n)
          omega
        · show max fr.2 (r.o + n) ≤ r.o + max m.fz n
          omega
  · intro cs2 m2 g b v h2 hal
    cases h2
    exact f8 g b v hal
  · intro l2 cs2 m2 g b v h2 hal
    by_cases hll : l2 = l
    · subst hll
      have h2 : (st.heap.set l2 (some (.cells cs { m' with fz := max m.fz n }))).get l2 = some (.cells cs2 m2) := h2
      rw [hself] at h2
      cases h2
      obtain ⟨_, mx, a2, _⟩ := f8 g b v hal
      exact ⟨v, mx, a2, Nat.le_refl _⟩
    · exact f9 l2 cs2 m2 g b v hll (by rw [← T.get_set_other _ l _ _ hll]; exact h2) hal
  · intro l2 cs2 m2 h2 hal
    by_cases hll : l2 = l
    · subst hll
      have h2 : (st.heap.set l2 (some (.cells cs { m' with fz := max m.fz n }))).get l2 = some (.cells cs2 m2) := h2
      rw [hself] at h2
      cases h2
      exact f11 hal
    · exact f10 l2 cs2 m2 hll (by rw [← T.get_set_other _ l _ _ hll]; exact h2) hal

/-- A row is marked as one that a string may share. -/
theorem mark_sound (P : Program) (R : Rel V N w0 ρ st w) {l : Nat} {cs : List AV} {m : Meta} {r : Base} (hl : Live st l (.cells cs m)) (hr : ρ l = some r) (hro : m.ro = false) (hsm : m.sm = false) (hfz : m.fz = 0) (hal : m.al = none) :
    ∃ w', (∀ off, (markStringish ⟨r.b, off, none⟩).run P w = .ok () w') ∧ Rel V N w0 ρ { st with heap := st.heap.set l (some (.cells cs { m with sm := true })) } w' ∧ Ext ρ st w ρ { st with heap := st.heap.set l (some (.cells cs { m with sm := true })) } w' := by
  obtain ⟨⟨carr, fr, h1, h2, h3, h4, h5, h6, h7⟩, _⟩ := R.obj l _ _ hl hr
  have hblt := heap_lt h1
  obtain ⟨h51, h52⟩ := h5 hro
  rw [elemT_rw hro] at h1
  have hro0 := h7 hal
  have hfr : fr.1 = fr.2 := by
    rcases h52 hsm with h | h
    · exact h
    · omega
  have hfzw := World.freeze_heap w r.b r.e 1 (by omega) h1
  rw [if_pos (by simpa using hfr)] at hfzw
  obtain ⟨g1, g2, g3⟩ := freeze_world w ⟨r.b, r.e, none⟩ 1
  have hcl : claim st m = some (m, st.grps) := by unfold claim; rw [hal]
  obtain ⟨f1, f2, f3, f4, f5, f55, f6, f7, f8, f9, f10, f11, f12, f13⟩ := claim_spec (st' := { st with heap := st.heap.set l (some (.cells cs { m with sm := true })) }) R hl hro hcl hr (.cells cs { m with sm := true }) rfl rfl
  have hlt := R.lt hr
  have hsmall := R.small
  have hself : (st.heap.set l (some (.cells cs { m with sm := true }))).get l = some (.cells cs { m with sm := true }) := T.get_set_same 24 _ _ _ R.deep (by omega)
  refine ⟨w.freeze ⟨r.b, r.e, none⟩ 1, fun off => ?_, R.upd (o' := .cells cs { m with sm := true }) hl (by simp [AObj.wr, hro]) hr rfl rfl (by simp [AObj.wr, hro]) (by rw [hfzw]; simp) (fun b hb => by rw [hfzw, Array.getElem?_setIfInBounds, if_neg (fun h => hb h.symm)]) g1 g2 g3 ?_ f7 ?_ ?_ ?_ f12 f13⟩
  · have hsh : w.shape? r.b = some (m.elem, r.e) := by simp [World.shape?, h1, h2]
    simp only [markStringish, Sem.run_bind, run_shape, hsh, Result.andThen_ok, run_freeze]
  · refine ⟨carr, (r.e, r.e + 1), by rw [hfzw, Array.getElem?_setIfInBounds, if_pos rfl, if_pos hblt, elemT_rw (show ({ m with sm := true } : Meta).ro = false from hro)], h2, h3, h4, fun _ => ⟨fun j a1 a2 => ?_, fun h => by cases h⟩, h6, h7⟩
    intro ⟨b1, _⟩
    have b1 : r.e ≤ j := b1
    omega
  · intro cs2 m2 g b v h2 hal2
    cases h2
    exact f8 g b v hal2
  · intro l2 cs2 m2 g b v h2 hal2
    by_cases hll : l2 = l
    · subst hll
      have h2 : (st.heap.set l2 (some (.cells cs { m with sm := true }))).get l2 = some (.cells cs2 m2) := h2
      rw [hself] at h2
      cases h2
      obtain ⟨_, mx, a2, _⟩ := f8 g b v hal2
      exact ⟨v, mx, a2, Nat.le_refl _⟩
    · exact f9 l2 cs2 m2 g b v hll (by rw [← T.get_set_other _ l _ _ hll]; exact h2) hal2
  · intro l2 cs2 m2 h2 hal2
    by_cases hll : l2 = l
    · subst hll
      exact f11 hal
    · exact f10 l2 cs2 m2 hll (by rw [← T.get_set_other _ l _ _ hll]; exact h2) hal2

/-! ### unsafe.String -/
def unsafeStringA (E : Env) (st : St) (ts : Array TypeId) (p : Option (Nat × Nat)) (n : Int) : OpRes :=
    bif decide (n < 0) then .bad "unsafe.String" else
    bif n == 0 then (match ts[0]? with | some _ => .val (.str []) st | none => .bad "unsafe.String") else
    (match p with
    | some (l, o) => (match st.heap.get l, ts[0]? with
      | some (.cells cs m), some pt => (match und E pt with
        | some (.pointer e) =>
          bif Nat.beq e m.elem && decide (Abs.sizeOf E e = some 1) && Nat.beq o 0 && !m.sm && !m.ro && decide (n ≤ 1000000000) then
            (match (readN cs 0 n.toNat).bind (bytesOf E), claim st m with
            | some s, some (m', gr) => .val (.str s) { st with heap := st.heap.set l (some (.cells cs { m' with fz := max m.fz n.toNat })), grps := gr }
            | _, _ => .bad "unsafe.String")
          else .bad "unsafe.String"
        | _ => .bad "unsafe.String")
      | _, _ => .bad "unsafe.String")
    | none => .bad "unsafe.String")

theorem liesAt_bytes' (P : Program) {e : TypeId} (hc : P.cellsOf e = 1) (count off n : Nat) (hn : off + n ≤ count) : liesAt P P.depth e count off e n = true := by
  have hd : P.depth = (2 * (P.types.size + Made.depth) + 1) + 1 := rfl
  rw [hd]
  simp only [liesAt, Bool.or_eq_true]
  left
  rw [hd]
  simp [rowAt, hc, hn, sameLayout, Nat.mod_one]

theorem unsafeString_def (ts : Array TypeId) (tp : TypeId) (p : Option Addr) (L : Value) : Builtin.unsafeString_ ts tp #[.pointer p, L] = (do
    let n ← asInt L
    let some pt := ts[0]? | stuck "unsafe.String: no argument types"
    if n < 0 then runtimePanic (.error "unsafe.String: len out of range")
    if n > IntKind.i64.max then unsupported (.unsafePointer "String: a length above the largest int")
    match p with
    | none =>
      if n = 0 then pure (.string .empty)
      else runtimePanic (.error "unsafe.String: ptr is nil and len is not zero")
    | some a =>
      if n = 0 then pure (.string .empty)
      else if ← variablesAt a (← elemOf pt) n.toNat then do
        let s ← loadBytes a .empty n.toNat
        freeze a n.toNat
        pure (.string s)
      else unsupported (.unsafePointer "String: not so many bytes at ptr")) := rfl

theorem unsafeString_sound (hE : EnvOK E V) (R : Rel V N w0 ρ st w) (ts : Array TypeId) (tp : TypeId) {p : Option (Nat × Nat)} {k : IntKind} {n : Int} {cp : Value} (hp : conc V ρ (.ptr p) = some cp) :
    VRes E V N w0 ρ st w (Builtin.unsafeString_ ts tp #[cp, .int k n]) (unsafeStringA E st ts p n) := by
  unfold unsafeStringA
  refine VRes.bif (fun _ => trivial) fun hn => ?_
  have hn : ¬ n < 0 := by simpa using hn
  have hcp : ∃ a, cp = .pointer a := by
    cases p with
    | none => simp only [conc, Option.some.injEq] at hp; exact ⟨_, hp.symm⟩
    | some q => obtain ⟨l, o⟩ := q; obtain ⟨r, _, rfl⟩ := concPtr hp; exact ⟨_, rfl⟩
  refine VRes.bif (fun h0 => ?_) fun h0 => ?_
  · have h0 : n = 0 := by simpa using h0
    subst h0
    split
    · rename_i t ht
      obtain ⟨a, rfl⟩ := hcp
      refine VRes.pure R (cv := .string .empty) ?_ (by simp [conc, bytesOK, concStr]; rfl)
      rw [unsafeString_def]
      have hmax : IntKind.i64.max = 9223372036854775807 := rfl
      cases a <;> simp [asInt, asIntOf, ht, hmax]
    · trivial
  · have h0 : n ≠ 0 := by simpa using h0
    split
    · rename_i l o
      split
      · rename_i cs m pt hg ht
        split
        · rename_i e hu
          refine VRes.bif (fun hb => ?_) fun _ => trivial
          simp only [Bool.and_eq_true, Bool.not_eq_true', decide_eq_true_eq] at hb
          obtain ⟨⟨⟨⟨⟨b1, b2⟩, b3⟩, b4⟩, b5⟩, b6⟩ := hb
          have b1 := beqt b1
          have b3 := beqt b3
          subst b1; subst b3
          split
          · rename_i s m' gr hs hcl
            have hval := claim_valid hcl
            have hl : Live st l (.cells cs m) := ⟨hg, fun cs2 m2 e => by cases e; exact hval⟩
            obtain ⟨r, hr, rfl⟩ := concPtr hp
            obtain ⟨⟨carr, fr, h1, h2, h3, h4, h5, h6, h7⟩, _⟩ := R.obj l _ _ hl hr
            rw [elemT_rw b5] at h1
            simp only [Option.bind_eq_some_iff] at hs
            obtain ⟨vs, hvs, hby⟩ := hs
            obtain ⟨c1, c2, c3⟩ := bytesOf_conc (V := V) (ρ := ρ) hE vs s hby
            obtain ⟨d1, d2⟩ := readN_sound cs 0 n.toNat vs hvs
            have hlen : (bytesL V s).length = n.toNat := by simp [bytesL]; omega
            have hcells : ∀ j x, (bytesL V s)[j]? = some x → w.cell? ((⟨r.b, r.o + 0, none⟩ : Addr).add j) = some (.int .u8 x.toNat) := by
              intro j x hj
              have hjl := (List.getElem?_eq_some_iff.1 hj).1
              have hvj : vs[j]? = some vs[j] := List.getElem?_eq_getElem (by omega)
              obtain ⟨y, hy, hyj⟩ := concs_get vs _ c2 j _ hvj
              rw [List.getElem?_map, hj] at hyj
              simp only [Option.map_some, Option.some.injEq] at hyj
              obtain ⟨z, hz, hzj⟩ := h4 (0 + j) _ (d2 j _ hvj)
              rw [hy] at hz; cases hz
              rw [Addr.add_eq, cell?_of_block h1, show r.o + 0 + j = r.o + (0 + j) from by omega, hzj, ← hyj]
            have hload := Lib.run_loadBytes (P := E.P) w (bytesL V s) ⟨r.b, r.o + 0, none⟩ .empty hcells
            rw [hlen] at hload
            have hc1 : E.P.cellsOf m.elem = 1 := by
              simp only [Abs.sizeOf] at b2
              simp [Program.cellsOf, b2]
            have hcsl : n.toNat ≤ cs.length := by
              by_cases hv0 : vs = []
              · subst hv0; simp at d1; omega
              · have : vs.length ≠ 0 := by simpa using hv0
                have hlast : vs[n.toNat - 1]? = some vs[n.toNat - 1] := List.getElem?_eq_getElem (by omega)
                have := (List.getElem?_eq_some_iff.1 (d2 _ _ hlast)).1
                omega
            have hlies := liesAt_bytes' E.P hc1 (r.e / E.P.cellsOf m.elem) (r.o + 0) n.toNat (by rw [hc1]; omega)
            have hsh : w.shape? r.b = some (m.elem, r.e) := by simp [World.shape?, h1, h2]
            have hfs := freeze_sound R hl hr b5 b4 (n := n.toNat) (by omega) hcl
            refine ⟨_, ρ, .string (concStr V s), ?_, by simp [conc, c1], hfs.1, hfs.2, rfl⟩
            have hmax : IntKind.i64.max = 9223372036854775807 := rfl
            have h63 : ¬ (9223372036854775807 : Int) < n := by omega
            have hstr : (⟨(bytesL V s).toArray⟩ : ByteArray) = concStr V s := rfl
            have hne : ¬ n = 0 := h0
            simp only [Nat.add_zero] at hload hlies
            rw [unsafeString_def]
            simp [asInt, asIntOf, ht, hmax, h63, hn, hne, elemOf, run_und hu, variablesAt, hsh, hlies, hload, hstr]
          · trivial
        · trivial
      · trivial
    · trivial

/-! ### Conversions -/
theorem live_cells {l : Nat} {cs : List AV} {m : Meta} (hg : st.heap.get l = some (.cells cs m)) (hv : valid st m.al = true) : Live st l (.cells cs m) := ⟨hg, fun cs2 m2 e => by cases e; exact hv⟩

theorem row_liesAt (P : Program) {e : TypeId} (hc : P.cellsOf e ≠ 0) (count : Nat) (hn : 1 ≤ count) : liesAt P P.depth e count 0 e 1 = true := by
  have hd : P.depth = (2 * (P.types.size + Made.depth) + 1) + 1 := rfl
  rw [hd]
  simp only [liesAt, Bool.or_eq_true]
  left
  rw [hd]
  simp [rowAt, hc, hn, sameLayout]

theorem convert_sound (hE : EnvOK E V) (R : Rel V N w0 ρ st w) (src dst : TypeId) {x : AV} {cx : Value} (hx : conc V ρ x = some cx) :
    VRes E V N w0 ρ st w (convert src dst cx) (convertA E st src dst x) := by
  unfold convertA
  split
  · rename_i sd k k' n hs hd
    simp only [conc, Option.some.injEq] at hx; subst hx
    refine VRes.pure R (cv := .int k (k.wrap (n.I V))) ?_ (by simp [conc, mkWrap_I hE])
    simp only [convert, Sem.run_bind, run_und hs, run_und hd, Result.andThen_ok]
    cases sd <;> rfl
  · rename_i sd s hs hd
    simp only [conc] at hx
    split at hx <;> simp only [Option.some.injEq, reduceCtorEq] at hx
    rename_i hok
    subst hx
    refine VRes.pure R (cv := .string (concStr V s)) ?_ (by simp [conc, hok])
    simp only [convert, Sem.run_bind, run_und hs, run_und hd, Result.andThen_ok]
    cases sd <;> rfl
  · rename_i sd e s hs hd
    simp only [conc] at hx
    split at hx <;> simp only [Option.some.injEq, reduceCtorEq] at hx
    rename_i hok
    subst hx
    split
    · rename_i hue
      -- a new row, marked
      unfold grown
      refine VRes.bif (fun hn => ?_) fun _ => trivial
      have hn := next_lt hn
      have hall := concStr_cells (V := V) (ρ := ρ) hok s.length
      rw [List.take_of_length_le (by simp)] at hall
      have hext : (concStr V s).extract 0 s.length = concStr V s := by
        rw [← concStr_size (V := V) s]; simp
      rw [hext] at hall
      have R2 : Rel V N w0 ρ st { w with drawn := w.drawn + 1 } := R.same rfl rfl rfl rfl
      let cap := (Question.appendCap (concStr V s).size 0 e).cut (w.tape w.drawn (.appendCap (concStr V s).size 0 e))
      have hcap : s.length ≤ cap := by
        show s.length ≤ (concStr V s).size + _
        rw [concStr_size]; omega
      let rest := List.replicate (cap - (concStr V s).size) (Value.int .u8 0)
      let xs := ((concStr V s).data.map fun b => Value.int .u8 (b.toNat : Int)).toList
      have hxl : xs.length = s.length := by have h := concs_length _ _ hall; rw [List.length_map] at h; exact h
      have hlen : (xs ++ rest).length = cap := by
        rw [List.length_append, hxl, List.length_replicate, concStr_size]; omega
      have hle : Rho.le ρ (ρ.upd st.next ⟨w.heap.size, 0, (xs ++ rest).length, cap⟩) := Rho.le_upd (R.fresh _ (Nat.le_refl _))
      let w1 : World := ({ w with drawn := w.drawn + 1 } : World).alloc (.cells (xs ++ rest).toArray e)
      let w2 : World := ({ w with drawn := w.drawn + 1 } : World).alloc (.cells (xs ++ rest).toArray e (cap, cap + 1))
      have hnew := R2.new (o := .cells (s.map fun b => AV.int .u8 b) { elem := e, sm := true, grow := some 1 }) (r := ⟨w.heap.size, 0, (xs ++ rest).length, cap⟩) (x := .cells (xs ++ rest).toArray e (cap, cap + 1)) hn rfl rfl
        ⟨(xs ++ rest).toArray, (cap, cap + 1), alloc_get _ _, by simp, by simp only [List.length_map, hlen]; omega, (concs_cellsAt hall).mono hle, fun _ => ⟨fun j _ a2 => by
          have a2 : j < (xs ++ rest).length := a2
          rw [hlen] at a2
          intro ⟨b1, _⟩
          have b1 : cap ≤ j := b1
          omega, fun h => by cases h⟩, fun sz h => by
            simp only [Option.some.injEq] at h; subst h
            show (xs ++ rest).length = 0 + cap * 1
            omega, fun _ => rfl⟩ (fun cs2 m2 h => by cases h; rfl)
      have hx0 : Ext ρ st w ρ st { w with drawn := w.drawn + 1 } := Ext.same rfl
      refine ⟨w2, _, .slice (some ⟨w.heap.size, 0, none⟩) s.length cap, ?_, ?_, hnew.1, hx0.trans hnew.2.1, rfl⟩
      · have hforced : (Question.appendCap (concStr V s).size 0 e).forced = false := rfl
        have hw1 : w1.heap[w.heap.size]? = some (.cells (xs ++ rest).toArray e (0, 0)) := alloc_get ({ w with drawn := w.drawn + 1 } : World) _
        have hfz : w1.freeze ⟨w.heap.size, cap, none⟩ 1 = w2 := by
          have h1 := World.freeze_heap w1 w.heap.size cap 1 (by omega) hw1
          have h2 : (w1.freeze ⟨w.heap.size, cap, none⟩ 1).heap = w2.heap := by
            rw [h1]
            apply Array.ext_getElem?
            intro j
            show (w1.heap.setIfInBounds _ _)[j]? = (w.heap.push _)[j]?
            rw [Array.getElem?_setIfInBounds, Array.getElem?_push]
            by_cases hj : j = w.heap.size
            · subst hj
              rw [if_pos rfl, if_pos rfl, if_pos (by show w.heap.size < (w.heap.push _).size; simp)]
              rfl
            · rw [if_neg (fun h => hj h.symm), if_neg hj]
              show (w.heap.push _)[j]? = _
              rw [Array.getElem?_push, if_neg hj]
          unfold World.freeze at h2 ⊢
          rw [if_neg (by omega)] at h2 ⊢
          simp only at h2
          show ({ w1 with heap := _ } : World) = w2
          rw [h2]
          rfl
        have hrow : ((concStr V s).data.map fun b => Value.int .u8 (b.toNat : Int)) ++ Array.replicate (cap - (concStr V s).size) (Value.int .u8 0) = (xs ++ rest).toArray := by
          apply Array.toList_inj.1; simp [xs, rest]
        have hsh : w1.shape? w.heap.size = some (e, cap) := by
          simp only [World.shape?, hw1]
          rw [show (xs ++ rest).toArray.size = cap from by simpa using hlen]
        have hconv : (Conv.stringToBytes e (concStr V s)).run E.P w = .ok (.slice (some ⟨w.heap.size, 0, none⟩) (concStr V s).size cap) w2 := by
          simp only [Conv.stringToBytes, Sem.run_bind, run_choose, hforced, Bool.false_eq_true, if_false, Result.andThen_ok, newRow, run_alloc, Sem.run_pure]
          rw [hrow]
          have hmark : (markStringish ⟨w.heap.size, 0, none⟩).run E.P w1 = .ok () w2 := by
            simp only [markStringish, Sem.run_bind, run_shape, hsh, Result.andThen_ok, run_freeze, hfz]
          show Result.andThen ((markStringish ⟨w.heap.size, 0, none⟩).run E.P w1) _ = _
          rw [hmark]
          rfl
        rw [concStr_size] at hconv
        simp only [convert, Sem.run_bind, run_und hs, run_und hd, Result.andThen_ok]
        cases sd <;> simp only [Sem.run_bind, run_und hue, Result.andThen_ok] <;> exact hconv
      · have := conc_rel (V := V) hnew.2.2 s.length 0 0 (by simpa using hcap)
        simpa using this
    · trivial
  · rename_i sd e l o len cap hs hd
    split
    · rename_i cs m hue hg
      refine VRes.bif (fun hb => ?_) fun _ => trivial
      simp only [Bool.and_eq_true, Bool.not_eq_true', Option.isNone_iff_eq_none] at hb
      obtain ⟨⟨⟨⟨b1, b2⟩, b3⟩, b4⟩, b5⟩ := hb
      have b1 := beqt b1
      subst b1
      rw [hs] at hd
      cases hd
      have hl : Live st l (.cells cs m) := live_cells hg (by rw [b3]; rfl)
      have hsl : ∃ r, ρ l = some r ∧ ∃ o' n' c', cx = .slice (some ⟨r.b, o', none⟩) n' c' := by
        simp only [conc, Option.bind_eq_some_iff] at hx
        obtain ⟨r, hr, hx⟩ := hx
        refine ⟨r, hr, ?_⟩
        split at hx
        · cases cap <;> simp only at hx <;> (try split at hx) <;> simp only [Option.some.injEq, reduceCtorEq] at hx <;> exact ⟨_, _, _, hx.symm⟩
        · cases hx
      obtain ⟨r, hr, o', n', c', rfl⟩ := hsl
      obtain ⟨w', e1, e2, e3⟩ := mark_sound E.P R hl hr b4 b5 (beqt b2) b3
      refine ⟨w', ρ, _, ?_, hx, e2, e3, rfl⟩
      simp only [convert, Sem.run_bind, run_und hs, Result.andThen_ok, run_und hue, beq_self_eq_true, e1, Sem.run_pure]
    · trivial
  · rename_i e b len c hs hd
    split
    · rename_i hue
      split
      · rename_i s hsb
        simp only [Option.bind_eq_some_iff] at hsb
        obtain ⟨vs, hvs, hby⟩ := hsb
        obtain ⟨c1, c2, c3⟩ := bytesOf_conc (V := V) (ρ := ρ) hE vs s hby
        obtain ⟨n, xs, g1, g2, g3, g4⟩ := srcCells_sound R hvs hx
        rw [c2] at g3; cases g3
        have hconv : (Conv.bytesToString cx).run E.P w = .ok (.string (concStr V s)) w := by
          cases b with
          | none =>
            cases c <;> simp only [conc, reduceCtorEq] at hx
            split at hx <;> simp only [Option.some.injEq, reduceCtorEq] at hx
            subst hx
            have h1 := g1 w
            simp only [Builtin.lenOf, Sem.run_pure] at h1
            injection h1 with h1 _
            have h2 := g4 n (Nat.le_refl _) w rfl
            simp only [Builtin.firstCells, Sem.run_pure] at h2
            injection h2 with h2 _
            have : s = [] := by
              have hl : ((bytesL V s).map fun b => Value.int .u8 (b.toNat : Int)).length = n * 1 := by
                have := concs_length _ _ c2
                rw [this, g2]
              rw [List.take_of_length_le (by omega)] at h2
              have := congrArg Array.size h2
              simp [bytesL] at this
              exact List.eq_nil_of_length_eq_zero this.symm
            subst this
            rfl
          | some q =>
            obtain ⟨l, o⟩ := q
            have hlit : ∃ k, len = .lit k := by
              unfold sliceCells at hvs
              cases len <;> first | exact ⟨_, rfl⟩ | cases hvs
            obtain ⟨k, rfl⟩ := hlit
            obtain ⟨hk0, r, o', m, hr, rfl, _⟩ := concSliceLit hx
            have h1 := g1 w
            simp only [Builtin.lenOf, Sem.run_pure] at h1
            injection h1 with h1 _
            have h2 := g4 n (Nat.le_refl _) w rfl
            have hl : ((bytesL V s).map fun b => Value.int .u8 (b.toNat : Int)).length = n * 1 := by
              have := concs_length _ _ c2
              rw [this, g2]
            rw [List.take_of_length_le (by omega)] at h2
            rw [h1]
            exact run_bytesToString (bytesL V s) (by simpa [Builtin.firstCells] using h2)
        refine VRes.pure R (cv := .string (concStr V s)) ?_ (by simp [conc, c1])
        simp only [convert, Sem.run_bind, run_und hs, run_und hd, Result.andThen_ok]
        have hsl : ∃ a n c, cx = .slice a n c := by
          cases b with
          | none =>
            cases c <;> simp only [conc, reduceCtorEq] at hx
            split at hx <;> simp only [Option.some.injEq, reduceCtorEq] at hx
            exact ⟨_, _, _, hx.symm⟩
          | some q =>
            obtain ⟨l, o⟩ := q
            simp only [conc, Option.bind_eq_some_iff] at hx
            obtain ⟨r, hr, hx⟩ := hx
            split at hx
            · cases c <;> simp only at hx <;> (try split at hx) <;> simp only [Option.some.injEq, reduceCtorEq] at hx <;> exact ⟨_, _, _, hx.symm⟩
            · cases hx
        obtain ⟨a, n', c', rfl⟩ := hsl
        simp only [Sem.run_bind, run_und hue, Result.andThen_ok]
        exact hconv
      · trivial
    · trivial
  · rename_i u l o hs hd
    split
    · rename_i cs m n hg hsz
      refine VRes.bif (fun hb => ?_) fun _ => trivial
      simp only [Bool.and_eq_true, Bool.not_eq_true', Option.isNone_iff_eq_none] at hb
      obtain ⟨⟨⟨⟨⟨⟨b1, b2⟩, b3⟩, b7⟩, b4⟩, b5⟩, b6⟩ := hb
      have b1 := beqt b1
      have b4 := beqt b4
      have b6 := ble b6
      subst b1; subst b4
      have hl := live_cells hg b2
      have hcx := hx
      obtain ⟨r, hr, rfl⟩ := concPtr hx
      obtain ⟨⟨carr, fr, h1, h2, h3, h4, h5, h6, h7⟩, _⟩ := R.obj l _ _ hl hr
      have h7 := h7 b3
      rw [elemT_rw b7] at h1
      simp only [Abs.sizeOf, Option.map_eq_some_iff] at hsz
      obtain ⟨j, hj, rfl⟩ := hsz
      have hj0 : j.size ≠ 0 := by intro h; rw [h] at b5; cases b5
      have hc : E.P.cellsOf m.elem = j.size := by simp [Program.cellsOf, hj]
      have hsh : w.shape? r.b = some (m.elem, r.e) := by simp [World.shape?, h1, h2]
      have hlies := row_liesAt E.P (e := m.elem) (by rw [hc]; exact hj0) (r.e / E.P.cellsOf m.elem) (by rw [hc]; exact Nat.div_pos (by omega) (by omega))
      refine VRes.pure R (cv := .pointer (some ⟨r.b, r.o + 0, none⟩)) (Lib.run_from_unsafe w _ (und_some hs).1 (und_some hd).1 hj hsh ?_) hcx
      rw [h7]
      exact hlies
    · trivial
  · rename_i t l o hs hd
    split
    · rename_i cs m n hg hsz
      refine VRes.bif (fun hb => ?_) fun _ => trivial
      simp only [Bool.and_eq_true, Bool.not_eq_true'] at hb
      obtain ⟨⟨b1, b2⟩, b3⟩ := hb
      have hl := live_cells hg b1
      have hcx := hx
      obtain ⟨r, hr, rfl⟩ := concPtr hx
      obtain ⟨⟨carr, fr, h1, h2, h3, h4, h5, h6, h7⟩, _⟩ := R.obj l _ _ hl hr
      simp only [Abs.sizeOf, Option.map_eq_some_iff] at hsz
      obtain ⟨j, hj, rfl⟩ := hsz
      have hj0 : j.size ≠ 0 := by intro h; rw [h] at b2; cases b2
      have hsh : w.shape? r.b = some (elemT m r, r.e) := by simp [World.shape?, h1, h2]
      have b3 : o < cs.length := by simp [Nat.blt] at b3; omega
      exact VRes.pure R (cv := .pointer (some ⟨r.b, r.o + o, none⟩)) (Lib.run_to_unsafe w _ (und_some hs).1 (und_some hd).1 hj hj0 hsh (by show r.o + o < r.e; omega)) hcx
    · trivial
  · trivial

end Go.Abs

/- Functions that the model itself gives. -/
namespace Go.Abs
variable {V : Val} {N : Nat} {w0 w w' : World} {ρ : Rho} {st st' : St} {E : Env}

def XFound (fn : Func) (e : Array Value → Sem Value) : Prop := Extern.findNext fn = none ∧ Extern.find fn = some e

theorem xfound_all {fn : Func} {s : String} {e : Array Value → Sem Value} (hn : fn.name = s) (ho : fn.origin = "") (h1 : Extern.allNextRows.lookup s = none) (h2 : Extern.allGenericRows.lookup s = none) (h3 : Extern.allTypedRows.lookup s = none) (h4 : Extern.allRows.lookup s = some e) : XFound fn e := by
  constructor
  · simp only [Extern.findNext, hn, ho, h1, show Extern.allNextRows.lookup "" = none from by kernel_rfl]; rfl
  · simp only [Extern.find, hn, h2, h3, h4]; rfl

theorem xfound_typed {fn : Func} {s : String} {e : Extern.Typed} (hn : fn.name = s) (ho : fn.origin = "") (h1 : Extern.allNextRows.lookup s = none) (h2 : Extern.allGenericRows.lookup s = none) (h3 : Extern.allTypedRows.lookup s = some e) : XFound fn (e fn.params fn.resultTypes) := by
  constructor
  · simp only [Extern.findNext, hn, ho, h1, show Extern.allNextRows.lookup "" = none from by kernel_rfl]; rfl
  · simp only [Extern.find, hn, h2, h3]; rfl

theorem x_noEscape {fn : Func} (hn : fn.name = "internal/abi.NoEscape") (ho : fn.origin = "") : XFound fn Extern.AbiNoEscape.same :=
  xfound_all hn ho (by kernel_rfl) (by kernel_rfl) (by kernel_rfl) (by kernel_rfl)
theorem x_makeNoZero {fn : Func} (hn : fn.name = "internal/bytealg.MakeNoZero") (ho : fn.origin = "") : XFound fn (Extern.BytealgMakeNoZero.makeNoZero fn.params fn.resultTypes) :=
  xfound_typed hn ho (by kernel_rfl) (by kernel_rfl) (by kernel_rfl)
theorem x_countString {fn : Func} (hn : fn.name = "internal/bytealg.CountString") (ho : fn.origin = "") : XFound fn Extern.BytealgCount.count :=
  xfound_all hn ho (by kernel_rfl) (by kernel_rfl) (by kernel_rfl) (by kernel_rfl)
theorem x_indexByte {fn : Func} (hn : fn.name = "internal/bytealg.IndexByteString") (ho : fn.origin = "") : XFound fn Extern.BytealgIndexByte.indexByte :=
  xfound_all hn ho (by kernel_rfl) (by kernel_rfl) (by kernel_rfl) (by kernel_rfl)
def add64 : Array Value → Sem Value := fun args => do
    let (x, y, c) ← Extern.MathBitsCarry.three "Add64" args
    pure (Extern.MathBitsCarry.pair ((x + y + c) % Extern.MathBitsCarry.m64) ((x + y + c) / Extern.MathBitsCarry.m64))
theorem x_add64 {fn : Func} (hn : fn.name = "math/bits.Add64") (ho : fn.origin = "") : XFound fn add64 :=
  xfound_all hn ho (by kernel_rfl) (by kernel_rfl) (by kernel_rfl) (by kernel_rfl)

theorem noEscape_sound (R : Rel V N w0 ρ st w) {args : List AV} {cargs : List Value} (h : concs V ρ args = some cargs) : VRes E V N w0 ρ st w (Extern.AbiNoEscape.same cargs.toArray) (noEscapeA st args) := by
  unfold noEscapeA
  split
  · simp only [concs, Option.bind_eq_some_iff, Option.map_some, Option.some.injEq] at h
    obtain ⟨c, hc, rfl⟩ := h
    exact VRes.pure R rfl hc
  · trivial

theorem digits_size : ∀ (n t : Nat) (acc : Array Value), (Extern.BytealgMakeNoZero.digits n t acc).size = n + acc.size
  | 0, _, _ => by simp [Extern.BytealgMakeNoZero.digits]
  | n + 1, t, acc => by simp only [Extern.BytealgMakeNoZero.digits, digits_size n, Array.size_push]; omega

theorem makeNoZero_sound (R : Rel V N w0 ρ st w) (ps rts : Array TypeId) {args : List AV} {cargs : List Value} (h : concs V ρ args = some cargs) :
    VRes E V N w0 ρ st w (Extern.BytealgMakeNoZero.makeNoZero ps rts cargs.toArray) (makeNoZeroA E st rts args) := by
  unfold makeNoZeroA
  split
  · rename_i n elem hb
    obtain ⟨t, ht, hu⟩ := bindUnd hb
    simp only [concs, conc, Option.bind_some, Option.map_some, Option.some.injEq, SI.I] at h; subst h
    refine VRes.bif (fun hb => ?_) fun _ => trivial
    simp only [Bool.and_eq_true, decide_eq_true_eq] at hb
    have hcond : (decide (n < 0) || decide (n > 2 ^ 48)) = false := by
      simp only [Bool.or_eq_false_iff, decide_eq_false_iff_not]; omega
    unfold grown
    refine VRes.bif (fun hn => ?_) fun _ => trivial
    have hn := next_lt hn
    let w1 : World := { w with drawn := w.drawn + 1 + 1 }
    have R2 : Rel V N w0 ρ st w1 := R.same rfl rfl rfl rfl
    let cap := (Question.appendCap n.toNat 0 elem).cut (w.tape w.drawn (.appendCap n.toNat 0 elem))
    have hcap : n.toNat ≤ cap := by show n.toNat ≤ n.toNat + _; omega
    let ds := Extern.BytealgMakeNoZero.digits cap ((Question.extern "internal/bytealg.MakeNoZero.bytes" 0).cut (w.tape (w.drawn + 1) (.extern "internal/bytealg.MakeNoZero.bytes" 0))) #[]
    have hds : ds.toList.length = cap := by
      have := digits_size cap ((Question.extern "internal/bytealg.MakeNoZero.bytes" 0).cut (w.tape (w.drawn + 1) (.extern "internal/bytealg.MakeNoZero.bytes" 0))) #[]
      simpa using this
    have hnc := new_cells R2 hn (cs := []) (xs := []) rfl ds.toList { elem, grow := some 1 } cap rfl rfl (fun sz h => by
      simp only [Option.some.injEq] at h; subst h; simp only [List.nil_append]; omega)
    obtain ⟨h1, h2, h3⟩ := hnc
    have hx0 : Ext ρ st w ρ st w1 := Ext.same rfl
    refine ⟨_, _, .slice (some ⟨w.heap.size, 0, none⟩) n.toNat cap, ?_, ?_, h1, hx0.trans h2, rfl⟩
    · have hf1 : (Question.appendCap n.toNat 0 elem).forced = false := rfl
      have hf2 : (Question.extern "internal/bytealg.MakeNoZero.bytes" 0).forced = false := rfl
      have hdef : ∀ n : Int, Extern.BytealgMakeNoZero.makeNoZero ps rts #[.int .i64 n] = (do
        let some t := rts[0]? | stuck "bytealg.MakeNoZero: no result type"
        let .slice elem ← underlying t | stuck "bytealg.MakeNoZero: slice type expected"
        if n < 0 || n > 2 ^ 48 then runtimePanic (.error "makeslice: len out of range")
        let cap ← choose (.appendCap n.toNat 0 elem)
        askRoom cap
        let bytes ← choose (.extern "internal/bytealg.MakeNoZero.bytes" 0)
        let a ← newRow elem (Extern.BytealgMakeNoZero.digits cap bytes #[])
        pure (.slice (some a) n.toNat cap)) := fun _ => rfl
      show (Extern.BytealgMakeNoZero.makeNoZero ps rts #[.int .i64 n]).run E.P w = _
      rw [hdef]
      simp only [ht, Sem.run_bind, run_und hu, Result.andThen_ok, hcond, Bool.false_eq_true, if_false, run_choose, hf1, hf2, run_askRoom, newRow, run_alloc, Sem.run_pure, List.nil_append, Array.toArray_toList]
      rfl
    · have := conc_rel (V := V) h3 n.toNat 0 0 (by simpa using hcap)
      simpa using this
  · trivial

theorem litsOf_sound : ∀ (s : List SI) (l : List Int), litsOf s = some l → s.map (SI.I V) = l
  | [], l, h => by simp only [litsOf, Option.some.injEq] at h; subst h; rfl
  | e :: r, l, h => by
    cases e <;> first | (simp [litsOf] at h; done) | skip
    rename_i n
    simp only [litsOf, Option.map_eq_some_iff] at h
    obtain ⟨u, hu, rfl⟩ := h
    simp [litsOf_sound r u hu, SI.I]

theorem toUInt8_ofNat (n : Nat) : n.toUInt8 = UInt8.ofNat n := rfl

theorem ba_len (as : ByteArray) : as.data.toList.length = as.size := by rw [Array.length_toList]; rfl

theorem ba_loop {β : Type} (f : β → UInt8 → β) (as : ByteArray) : ∀ (i j : Nat) (b : β), as.size ≤ i + j → @ByteArray.foldlM.loop β _root_.Id _ (fun x y => Pure.pure (f x y)) as as.size (Nat.le_refl _) i j b = (as.data.toList.drop j).foldl f b
  | 0, j, b, h => by
    rw [ByteArray.foldlM.loop.eq_def]
    have : ¬ j < as.size := by omega
    simp only [this, dif_neg, not_false_eq_true]
    rw [List.drop_eq_nil_of_le (by have e := ba_len as; omega)]
    rfl
  | i + 1, j, b, h => by
    rw [ByteArray.foldlM.loop.eq_def]
    by_cases hj : j < as.size
    · simp only [hj, dif_pos]
      have hj' : j < as.data.toList.length := by
        have e : as.data.toList.length = as.size := by rw [Array.length_toList]; rfl
        omega
      rw [List.drop_eq_getElem_cons hj', List.foldl_cons]
      have := ba_loop f as i (j + 1) (f b as.data.toList[j]) (by omega)
      rw [← this]
      rfl
    · simp only [hj, dif_neg, not_false_eq_true]
      rw [List.drop_eq_nil_of_le (by have e := ba_len as; omega)]
      rfl

theorem byteArray_foldl {β : Type} (f : β → UInt8 → β) (as : ByteArray) (b : β) : as.foldl f b = as.data.toList.foldl f b := by
  unfold ByteArray.foldl ByteArray.foldlM
  simp only [Nat.le_refl, dif_pos, Nat.sub_zero]
  have := ba_loop f as as.size 0 b (by omega)
  rw [List.drop_zero] at this
  exact this

theorem countString_sound (R : Rel V N w0 ρ st w) {args : List AV} {cargs : List Value} (h : concs V ρ args = some cargs) : VRes E V N w0 ρ st w (Extern.BytealgCount.count cargs.toArray) (countStringA st args) := by
  unfold countStringA
  split
  · rename_i s c
    simp only [concs, conc, Option.bind_eq_some_iff, SI.I] at h
    obtain ⟨cs, hcs, h⟩ := h
    simp only [Option.bind_some, Option.map_some, Option.some.injEq] at h
    subst h
    split at hcs <;> simp only [Option.some.injEq, reduceCtorEq] at hcs
    rename_i hok
    subst hcs
    split
    · rename_i l hl
      refine VRes.bif (fun hb => ?_) fun _ => trivial
      simp only [Bool.and_eq_true, decide_eq_true_eq] at hb
      have hls := litsOf_sound (V := V) s l hl
      have hdef : Extern.BytealgCount.count #[.string (concStr V s), .int .u8 c] = pure (goInt ((concStr V s).foldl (fun n x => if x == c.toNat.toUInt8 then n + 1 else n) (0 : Nat))) := rfl
      refine VRes.pure R (cv := goInt ((concStr V s).foldl (fun n x => if x == c.toNat.toUInt8 then n + 1 else n) (0 : Nat))) (by
        show (Extern.BytealgCount.count #[.string (concStr V s), .int .u8 c]).run E.P w = _
        rw [hdef]; rfl) ?_
      have key : ∀ (s : List SI) (n : Int), bytesOK V s → (bytesL V s).foldl (fun n x => if x == c.toNat.toUInt8 then n + 1 else n) n = (s.map (SI.I V)).foldl (fun n x => bif x == c then n + 1 else n) n := by
        intro s
        induction s with
        | nil => intro n _; rfl
        | cons e s ih =>
          intro n hok
          have := bytesOK_cons hok
          have he : (UInt8.ofNat (e.I V).toNat == c.toNat.toUInt8) = (e.I V == c) := by
            rw [toUInt8_ofNat, byte_eq this.1 hb]; rfl
          simp only [bytesL, List.map_cons, List.foldl_cons, he]
          have := ih (if (e.I V == c) = true then n + 1 else n) this.2
          simp only [bytesL] at this
          rw [this]
          congr 1
          cases (e.I V == c) <;> rfl
      have hfold : (concStr V s).foldl (fun n x => if x == c.toNat.toUInt8 then n + 1 else n) (0 : Int) = l.foldl (fun n x => bif x == c then n + 1 else n) 0 := by
        rw [← hls, ← key s 0 hok, byteArray_foldl]
        rfl
      simp only [conc, goInt, SI.I]
      rw [← hfold]
      rfl
    · trivial
  · trivial

theorem find_congr {p q : Nat → Bool} : ∀ (l : List Nat), (∀ i ∈ l, p i = q i) → l.find? p = l.find? q
  | [], _ => rfl
  | i :: l, h => by
    rw [List.find?_cons, List.find?_cons, h i (by simp), find_congr l (fun j hj => h j (by simp [hj]))]

theorem indexByte_sound (R : Rel V N w0 ρ st w) {args : List AV} {cargs : List Value} (h : concs V ρ args = some cargs) : VRes E V N w0 ρ st w (Extern.BytealgIndexByte.indexByte cargs.toArray) (indexByteStringA st args) := by
  unfold indexByteStringA
  split
  · rename_i s c
    simp only [concs, conc, Option.bind_eq_some_iff, SI.I] at h
    obtain ⟨cs, hcs, h⟩ := h
    simp only [Option.bind_some, Option.map_some, Option.some.injEq] at h
    subst h
    split at hcs <;> simp only [Option.some.injEq, reduceCtorEq] at hcs
    rename_i hok
    subst hcs
    split
    · rename_i l hl
      refine VRes.bif (fun hb => ?_) fun _ => trivial
      simp only [Bool.and_eq_true, decide_eq_true_eq] at hb
      have hls := litsOf_sound (V := V) s l hl
      have hlen : l.length = s.length := by rw [← hls]; simp
      have hfind : ((List.range (concStr V s).size).find? fun i => (concStr V s)[i]! == c.toNat.toUInt8) = (List.range l.length).find? (fun i => l.getD i 0 == c) := by
        rw [concStr_size, hlen]
        refine find_congr _ fun i hi => ?_
        have hi : i < s.length := by simpa using hi
        have hget : (concStr V s)[i]! = UInt8.ofNat ((s[i]).I V).toNat := by
          have h1 : i < (concStr V s).size := by rw [concStr_size]; exact hi
          rw [getElem!_pos (concStr V s) i h1]
          show (concStr V s).data[i]'h1 = _
          simp [concStr]
        have hl : l.getD i 0 = (s[i]).I V := by
          rw [← hls]
          simp [List.getD_eq_getElem?_getD, hi]
        have hbi := hok s[i] (List.getElem_mem hi)
        rw [hget, hl, toUInt8_ofNat, byte_eq hbi hb]; rfl
      cases hf : (List.range l.length).find? (fun i => l.getD i 0 == c) with
      | none =>
        refine VRes.pure R (cv := goInt (-1)) ?_ rfl
        rw [hf] at hfind
        show (Extern.BytealgIndexByte.indexByte #[.string (concStr V s), .int .u8 c]).run E.P w = _
        have hdef : Extern.BytealgIndexByte.indexByte #[.string (concStr V s), .int .u8 c] = (match ((List.range (concStr V s).size).find? fun i => (concStr V s)[i]! == c.toNat.toUInt8) with
          | some i => pure (goInt i)
          | none => pure (goInt (-1))) := rfl
        rw [hdef, hfind]; rfl
      | some i =>
        refine VRes.pure R (cv := goInt i) ?_ rfl
        rw [hf] at hfind
        show (Extern.BytealgIndexByte.indexByte #[.string (concStr V s), .int .u8 c]).run E.P w = _
        have hdef : Extern.BytealgIndexByte.indexByte #[.string (concStr V s), .int .u8 c] = (match ((List.range (concStr V s).size).find? fun i => (concStr V s)[i]! == c.toNat.toUInt8) with
          | some i => pure (goInt i)
          | none => pure (goInt (-1))) := rfl
        rw [hdef, hfind]; rfl
    · trivial
  · trivial

theorem add64_sound (R : Rel V N w0 ρ st w) {args : List AV} {cargs : List Value} (h : concs V ρ args = some cargs) : VRes E V N w0 ρ st w (add64 cargs.toArray) (add64A st args) := by
  unfold add64A
  split
  · rename_i k x k' y k'' c
    simp only [concs, conc, Option.bind_some, Option.map_some, Option.some.injEq, SI.I] at h; subst h
    refine VRes.bif (fun hc => ?_) fun _ => trivial
    have hc := ble hc
    have hc' : ¬ c.toNat > 1 := by omega
    refine VRes.pure R (cv := Extern.MathBitsCarry.pair ((x.toNat + y.toNat + c.toNat) % 2 ^ 64) ((x.toNat + y.toNat + c.toNat) / 2 ^ 64)) ?_ rfl
    have hdef : add64 #[.int k x, .int k' y, .int k'' c] = (do
      let (x, y, c) ← (do
        let c := (← asInt (.int k'' c)).toNat
        if c > 1 then unsupported (.noEntry ("extern/math/bits." ++ "Add64" ++ ": a carry that is neither 0 nor 1"))
        pure ((← asInt (.int k x)).toNat, (← asInt (.int k' y)).toNat, c) : Sem (Nat × Nat × Nat))
      pure (Extern.MathBitsCarry.pair ((x + y + c) % Extern.MathBitsCarry.m64) ((x + y + c) / Extern.MathBitsCarry.m64))) := rfl
    show (add64 #[.int k x, .int k' y, .int k'' c]).run E.P w = _
    rw [hdef]
    simp only [asInt, asIntOf, Sem.run_bind, Sem.run_pure, Result.andThen_ok, hc', if_false]
    rfl
  · trivial

end Go.Abs

/- One operation: what the abstract executor says of it is so. -/
namespace Go.Abs
variable {V : Val} {N : Nat} {w0 w w' : World} {ρ : Rho} {st st' : St} {E : Env}

def NRes (E : Env) (V : Val) (N : Nat) (w0 : World) (ρ : Rho) (st : St) (w : World) (s : Sem Next) : OpRes → Prop
  | .val v st' => ∃ w' ρ' cv, s.run E.P w = .ok (.value cv) w' ∧ conc V ρ' v = some cv ∧ Rel V N w0 ρ' st' w' ∧ Ext ρ st w ρ' st' w' ∧ st'.pc = st.pc
  | .skip st' => ∃ w' ρ', s.run E.P w = .ok .skip w' ∧ Rel V N w0 ρ' st' w' ∧ Ext ρ st w ρ' st' w' ∧ st'.pc = st.pc
  | .alts l => ∃ v st', (v, st') ∈ l ∧ ∃ w' ρ' cv, s.run E.P w = .ok (.value cv) w' ∧ conc V ρ' v = some cv ∧ Rel V N w0 ρ' st' w' ∧ Ext ρ st w ρ' st' w' ∧ st'.pc = st.pc
  | .call f args st' => st' = st ∧ ∃ cargs, s.run E.P w = .ok (.enter f cargs) w ∧ concs V ρ args = some cargs.toList
  | .summ f args v => E.summ f args = some v ∧ ∃ cargs, s.run E.P w = .ok (.enter f cargs) w ∧ concs V ρ args = some cargs.toList
  | .yield l args st' => st' = st ∧ ∃ r cargs, ρ l = some r ∧ concs V ρ args = some cargs.toList ∧ s.run E.P w = (Instr.yield r.b cargs).run E.P w
  | .split _ | .bad _ => True

theorem NRes.ofV {s : Sem Value} {r : OpRes} (h : VRes E V N w0 ρ st w s r) : NRes E V N w0 ρ st w (do pure (.value (← s))) r := by
  cases r with
  | val v st' =>
    obtain ⟨w', ρ', cv, h1, h2⟩ := h
    exact ⟨w', ρ', cv, by simp only [Sem.run_bind, h1, Result.andThen_ok, Sem.run_pure], h2⟩
  | alts l =>
    obtain ⟨v, st', hm, w', ρ', cv, h1, h2⟩ := h
    exact ⟨v, st', hm, w', ρ', cv, by simp only [Sem.run_bind, h1, Result.andThen_ok, Sem.run_pure], h2⟩
  | split _ => trivial
  | bad _ => trivial
  | skip _ => exact h.elim
  | call _ _ _ => exact h.elim
  | summ _ _ _ => exact h.elim
  | yield _ _ _ => exact h.elim

theorem NRes.ofU {s : Sem Unit} {r : OpRes} (h : URes E V N w0 ρ st w s r) : NRes E V N w0 ρ st w (do s; pure .skip) r := by
  cases r with
  | skip st' =>
    obtain ⟨w', ρ', h1, h2⟩ := h
    exact ⟨w', ρ', by simp only [Sem.run_bind, h1, Result.andThen_ok, Sem.run_pure], h2⟩
  | split _ => trivial
  | bad _ => trivial
  | val _ _ => exact h.elim
  | alts _ => exact h.elim
  | call _ _ _ => exact h.elim
  | summ _ _ _ => exact h.elim
  | yield _ _ _ => exact h.elim

theorem NRes.congr {s s' : Sem Next} {r : OpRes} (h : NRes E V N w0 ρ st w s r) (e : s'.run E.P w = s.run E.P w) : NRes E V N w0 ρ st w s' r := by
  cases r with
  | val v st' => obtain ⟨w', ρ', cv, h1, h2⟩ := h; exact ⟨w', ρ', cv, e.trans h1, h2⟩
  | skip st' => obtain ⟨w', ρ', h1, h2⟩ := h; exact ⟨w', ρ', e.trans h1, h2⟩
  | alts l => obtain ⟨v, st', hm, w', ρ', cv, h1, h2⟩ := h; exact ⟨v, st', hm, w', ρ', cv, e.trans h1, h2⟩
  | call f args st' => obtain ⟨h0, c, h1, h2⟩ := h; exact ⟨h0, c, e.trans h1, h2⟩
  | summ f args v => obtain ⟨h0, c, h1, h2⟩ := h; exact ⟨h0, c, e.trans h1, h2⟩
  | yield l args st' => obtain ⟨h0, r, c, h1, h2, h3⟩ := h; exact ⟨h0, r, c, h1, h2, e.trans h3⟩
  | split _ => trivial
  | bad _ => trivial

theorem VRes.congr {s s' : Sem Value} {r : OpRes} (h : VRes E V N w0 ρ st w s r) (e : s'.run E.P w = s.run E.P w) : VRes E V N w0 ρ st w s' r := by
  cases r with
  | val v st' => obtain ⟨w', ρ', cv, h1, h2⟩ := h; exact ⟨w', ρ', cv, e.trans h1, h2⟩
  | alts l => obtain ⟨v, st', hm, w', ρ', cv, h1, h2⟩ := h; exact ⟨v, st', hm, w', ρ', cv, e.trans h1, h2⟩
  | split _ => trivial
  | bad _ => trivial
  | skip _ => exact h.elim
  | call _ _ _ => exact h.elim
  | summ _ _ _ => exact h.elim
  | yield _ _ _ => exact h.elim

/- what stands fast while the code runs -/
structure Fast (E : Env) (V : Val) : Prop where
  ok : EnvOK E V
  p : EnvP E
  z : EnvZ E

theorem NRes.e1 {a : Act} {x : Operand} {s : Sem Next} {k : AV → OpRes} (h : ∀ v, ev E a x = some v → NRes E V N w0 ρ st w s (k v)) : NRes E V N w0 ρ st w s (match ev E a x with | some v => k v | none => .bad "operand") := by
  cases hx : ev E a x with
  | none => trivial
  | some v => exact h v hx

theorem NRes.eo {a : Act} {x : Option Operand} {s : Sem Next} {k : Option AV → OpRes} (h : ∀ o, (x = none ∧ o = none ∨ ∃ y v, x = some y ∧ ev E a y = some v ∧ o = some v) → NRes E V N w0 ρ st w s (k o)) :
    NRes E V N w0 ρ st w s (match (generalizing := false) x with | none => k none | some x => (match ev E a x with | some v => k (some v) | none => .bad "operand")) := by
  cases x with
  | none => exact h none (.inl ⟨rfl, rfl⟩)
  | some y => exact NRes.e1 fun v hv => h (some v) (.inr ⟨y, v, rfl, hv, rfl⟩)

theorem NRes.bif {s : Sem Next} {c : Bool} {x y : OpRes} (h : c = true → NRes E V N w0 ρ st w s x) (h' : c = false → NRes E V N w0 ρ st w s y) : NRes E V N w0 ρ st w s (cond c x y) := by
  cases c
  · exact h' rfl
  · exact h rfl

theorem NRes.onB {s : Sem Next} {c : SB} {k : Bool → OpRes} (hpc : PcOK V st.pc) (h : ∀ b, c.B V = b → NRes E V N w0 ρ st w s (k b)) : NRes E V N w0 ρ st w s (Abs.onB st c k) := by
  unfold Abs.onB
  cases hd : dec st c with
  | none => trivial
  | some b => exact h b (dec_sound hpc c b hd)

theorem NRes.pure {s : Sem Next} {v : AV} {cv : Value} (R : Rel V N w0 ρ st w) (h : s.run E.P w = .ok (.value cv) w) (hc : conc V ρ v = some cv) : NRes E V N w0 ρ st w s (.val v st) :=
  ⟨w, ρ, cv, h, hc, R, Ext.refl _ _ _, rfl⟩

/-! ### What is built in -/
theorem arr1 {cargs : List Value} {args : List AV} {x : AV} (h : concs V ρ args = some cargs) (e : args = [x]) : ∃ c, conc V ρ x = some c ∧ cargs = [c] := by
  subst e
  simp only [concs, Option.bind_eq_some_iff, Option.map_some, Option.some.injEq] at h
  obtain ⟨c, h1, rfl⟩ := h
  exact ⟨c, h1, rfl⟩

theorem concs1 {cargs : List Value} {x : AV} (h : concs V ρ [x] = some cargs) : ∃ c, conc V ρ x = some c ∧ cargs = [c] := by
  simp only [concs, Option.bind_eq_some_iff, Option.map_some, Option.some.injEq] at h
  obtain ⟨c, h1, rfl⟩ := h
  exact ⟨c, h1, rfl⟩

theorem concs2 {cargs : List Value} {x y : AV} (h : concs V ρ [x, y] = some cargs) : ∃ c d, conc V ρ x = some c ∧ conc V ρ y = some d ∧ cargs = [c, d] := by
  simp only [concs, Option.bind_eq_some_iff, Option.map_eq_some_iff, Option.some.injEq] at h
  obtain ⟨c, h1, _, ⟨d, h2, _, h3, rfl⟩, rfl⟩ := h
  cases h3
  exact ⟨c, d, h1, h2, rfl⟩

theorem run_vAppend (ts : Array TypeId) (tp : TypeId) (consts : Array Bool) (args : Array Value) : builtin .append ts tp consts args = (do pure (.value (← Builtin.append_ ts tp args))) := rfl

theorem builtin_sound (F : Fast E V) (hpc : PcOK V st.pc) (R : Rel V N w0 ρ st w) (b : Builtin) (ts : Array TypeId) (tp : TypeId) (consts : Array Bool) (args : List AV) (cargs : List Value) (h : concs V ρ args = some cargs) :
    NRes E V N w0 ρ st w (builtin b ts tp consts cargs.toArray) (builtinA E st b ts tp args) := by
  unfold builtinA
  split
  · -- len
    obtain ⟨c, hc, rfl⟩ := concs1 h
    split
    · rename_i t ht
      exact NRes.ofV (len_sound R ht tp hc)
    · trivial
  · -- cap
    rename_i b n c
    obtain ⟨cv, hc, rfl⟩ := concs1 h
    split
    · rename_i e hb
      obtain ⟨t, ht, hu⟩ := bindUnd hb
      have hcv : ∃ a m, cv = .slice a m c := by
        cases b with
        | none =>
          simp only [conc] at hc
          split at hc <;> simp only [Option.some.injEq, reduceCtorEq] at hc
          exact ⟨_, _, hc.symm⟩
        | some q =>
          obtain ⟨l, o⟩ := q
          simp only [conc, Option.bind_eq_some_iff] at hc
          obtain ⟨r, hr, hc⟩ := hc
          split at hc <;> simp only [Option.some.injEq, reduceCtorEq] at hc
          exact ⟨_, _, hc.symm⟩
      obtain ⟨a, m, rfl⟩ := hcv
      refine NRes.ofV (VRes.pure R (cv := goInt c) ?_ rfl)
      have h0 : (#[Value.slice a m c] : Array Value)[0]? = some (.slice a m c) := rfl
      simp only [Builtin.cap_, ht, h0, Sem.run_bind, run_und hu, Result.andThen_ok, Sem.run_pure]
    · trivial
  · -- append
    rename_i s x
    obtain ⟨cs, cx, hcs, hcx, rfl⟩ := concs2 h
    split
    · rename_i elem hb
      obtain ⟨t, ht, hu⟩ := bindUnd hb
      split
      · rename_i size bytes xt hsz hby hbx
        obtain ⟨xT, hxT, hux⟩ := bindUnd hbx
        split
        · -- zeros
          rename_i k
          split
          · rename_i n
            split
            · rename_i new hnew
              refine NRes.bif (fun hb => ?_) fun _ => trivial
              simp only [Bool.and_eq_true, decide_eq_true_eq] at hb
              obtain ⟨⟨⟨b1, b2⟩, b3⟩, b4⟩ := hb
              obtain ⟨i, z, hi, hz, hzs, hcc⟩ := zeroCellsN_sound (V := V) (ρ := ρ) F.z hnew
              have hsi : size = i.size := by simp only [Abs.sizeOf, hi, Option.map_some, Option.some.injEq] at hsz; exact hsz.symm
              have hbi : bytes = i.bytes := by simp only [hi, Option.map_some, Option.some.injEq] at hby; exact hby.symm
              subst hsi; subst hbi
              have hnn : ((n.toNat : Nat) : Int) = n := by omega
              have hcx' : cx = .int .i64 ((n.toNat : Nat) : Int) := by
                simp only [conc, Option.some.injEq, SI.I] at hcx; rw [hnn]; exact hcx.symm
              have hl := concs_length _ _ hcc
              simp only [Array.length_toList, Array.size_map, Array.size_range, hzs] at hl
              refine NRes.ofV (append_sound F.z R tp ht hu hsz hby hcs ⟨xT, _, hxT, hux, .inl ⟨⟨k, rfl⟩, i, z, hcx', by omega, hi, hz, hzs, by omega, fun h0 => ?_, ?_⟩⟩ hcc hl.symm)
              · apply List.eq_nil_of_length_eq_zero
                simp only [Array.length_toList, Array.size_map, Array.size_range, hzs]
                exact h0
              · rfl
            · trivial
          · trivial
        · rename_i new hk hnew
          refine NRes.bif (fun _ => trivial) fun hs0 => ?_
          have hs0 : 0 < size := by
            rcases Nat.eq_zero_or_pos size with h | h
            · subst h; cases hs0
            · exact h
          obtain ⟨n, xs, g1, g2, g3, g4⟩ := srcCells_sound R hnew hcx
          have hdiv : new.length / size = n := by rw [g2]; exact Nat.mul_div_cancel n hs0
          rw [hdiv]
          have hxl := concs_length _ _ g3
          refine NRes.ofV (append_sound F.z R tp ht hu hsz hby hcs ⟨xT, _, hxT, hux, .inr ⟨fun k e => hk k e, g1, fun w2 hw => ?_⟩⟩ g3 g2)
          have := g4 n (Nat.le_refl _) w2 hw
          rw [List.take_of_length_le (by omega)] at this
          exact this
        · trivial
      · trivial
    · trivial
  · -- copy
    rename_i base d cap x
    obtain ⟨cd, cx, hcd, hcx, rfl⟩ := concs2 h
    exact NRes.ofV (copy_sound R ts tp hcd hcx)
  · -- delete
    rename_i m k
    obtain ⟨cm, ck, hcm, hck, rfl⟩ := concs2 h
    split
    · rename_i t ht
      exact NRes.ofV (delete_sound F.ok hpc R ht tp hcm hck)
    · trivial
  · exact NRes.ofV (max_sound F.ok hpc R ts tp true _ cargs h)
  · exact NRes.ofV (max_sound F.ok hpc R ts tp false _ cargs h)
  · rename_i b n cap
    obtain ⟨cx, hcx, rfl⟩ := concs1 h
    exact NRes.ofV (clear_sound F.z R ts tp hcx)
  · -- SliceData, known
    rename_i l o n c
    obtain ⟨cx, hcx, rfl⟩ := concs1 h
    refine NRes.bif (fun _ => trivial) fun hc => ?_
    have hc : c ≠ 0 := fun h => by subst h; cases hc
    simp only [conc, Option.bind_eq_some_iff] at hcx
    obtain ⟨r, hr, hcx⟩ := hcx
    split at hcx <;> simp only [Option.some.injEq, reduceCtorEq] at hcx
    subst hcx
    exact NRes.ofV (VRes.pure R (Lib.run_unsafeSliceData_row w ts tp _ _ c hc) (by simp [conc, hr]))
  · rename_i l o n m
    obtain ⟨cx, hcx, rfl⟩ := concs1 h
    refine NRes.bif (fun hn => ?_) fun _ => trivial
    have hn := of_decide_eq_true hn
    obtain ⟨hn0, r, o', mm, hr, rfl, _, _, hrel, _⟩ := concSliceLit hcx
    obtain ⟨h1, h2, h3⟩ := hrel _ rfl
    subst h3
    exact NRes.ofV (VRes.pure R (Lib.run_unsafeSliceData_row w ts tp _ _ mm (by omega)) (by simp [conc, hr]))
  · rename_i n c
    obtain ⟨cx, hcx, rfl⟩ := concs1 h
    cases c <;> simp only [conc, reduceCtorEq] at hcx
    split at hcx <;> simp only [Option.some.injEq, reduceCtorEq] at hcx
    subst hcx
    exact NRes.ofV (VRes.pure R (Lib.run_unsafeSliceData_nil w ts tp _ _) rfl)
  · rename_i p k n
    obtain ⟨cp, cn, hcp, hcn, rfl⟩ := concs2 h
    simp only [conc, Option.some.injEq, SI.I] at hcn; subst hcn
    exact NRes.ofV (unsafeString_sound F.ok R ts tp hcp)
  · trivial

end Go.Abs

/- One operation: what the abstract executor says of it is so. -/
namespace Go.Abs
variable {V : Val} {N : Nat} {w0 w w' : World} {ρ : Rho} {st st' : St} {E : Env}

theorem mapArr {α β : Type} (f : α → β) (xs : Array α) : (xs.toList.map f).toArray = xs.map f := Array.toList_inj.1 (by rw [List.toList_toArray, Array.toList_map])

theorem run_extern {f : FuncId} {fn : Func} {e : Array Value → Sem Value} (hf : E.P.funcs[f]? = some fn) (hn : fn.name ≠ "runtime.NumGoroutine") (hb : fn.body = none) (hx : XFound fn e) (args : Array Value) (w : World) :
    (callFunc f args).run E.P w = (do pure (.value (← e args)) : Sem Next).run E.P w := by
  have h1 : (fn.name == "runtime.NumGoroutine") = false := by simpa using hn
  simp only [callFunc, Sem.run_bind, run_program, Result.andThen_ok, hf, h1, Bool.false_eq_true, if_false, hb, Option.isNone_none, if_true, run_mark, hx.1, hx.2]

theorem externA_sound (F : Fast E V) (R : Rel V N w0 ρ st w) {f : FuncId} {fn : Func} (hf : E.P.funcs[f]? = some fn) (hb : fn.body = none) {args : List AV} {cargs : List Value} (h : concs V ρ args = some cargs) :
    NRes E V N w0 ρ st w (callFunc f cargs.toArray) (externA E st fn args) := by
  have hn := F.p.num f fn hf
  unfold externA
  split
  · trivial
  · rename_i ho
    have ho : fn.origin = "" := by simpa using ho
    split
    · rename_i hname
      exact (NRes.ofV (noEscape_sound R h)).congr (run_extern hf hn hb (x_noEscape hname ho) _ w)
    · split
      · rename_i hname
        exact (NRes.ofV (makeNoZero_sound R fn.params fn.resultTypes h)).congr (run_extern hf hn hb (x_makeNoZero hname ho) _ w)
      · split
        · rename_i hname
          exact (NRes.ofV (countString_sound R h)).congr (run_extern hf hn hb (x_countString hname ho) _ w)
        · split
          · rename_i hname
            exact (NRes.ofV (indexByte_sound R h)).congr (run_extern hf hn hb (x_indexByte hname ho) _ w)
          · split
            · rename_i hname
              exact (NRes.ofV (add64_sound R h)).congr (run_extern hf hn hb (x_add64 hname ho) _ w)
            · trivial

theorem callFuncA_sound (F : Fast E V) (R : Rel V N w0 ρ st w) (f : FuncId) {args : List AV} {cargs : List Value} (h : concs V ρ args = some cargs) :
    NRes E V N w0 ρ st w (callFunc f cargs.toArray) (callFuncA E st f args) := by
  unfold callFuncA
  split
  · trivial
  · rename_i fn hf
    have hn := F.p.num f fn hf
    have h1 : (fn.name == "runtime.NumGoroutine") = false := by simpa using hn
    split
    · rename_i hb
      exact externA_sound F R hf hb h
    · rename_i c hb
      have hrun : (callFunc f cargs.toArray).run E.P w = .ok (.enter f cargs.toArray) w := by
        simp only [callFunc, Sem.run_bind, run_program, Result.andThen_ok, hf, h1, Bool.false_eq_true, if_false, hb, Option.isNone_some, Sem.run_pure]
      split
      · rename_i v hs
        exact ⟨hs, _, hrun, h⟩
      · exact ⟨rfl, _, hrun, h⟩

theorem concFunc {fn : Fn} {x y : List AV} {c : Value} (h : conc V ρ (.func fn x y) = some c) : ∃ g u v, concFn ρ fn = some g ∧ concs V ρ x = some u ∧ concs V ρ y = some v ∧ c = .func g u.toArray v.toArray := by
  simp only [conc, Option.bind_eq_some_iff, Option.map_eq_some_iff] at h
  obtain ⟨g, hg, u, hu, v, hv, rfl⟩ := h
  exact ⟨g, u, v, hg, hu, hv, rfl⟩

theorem call_sound (F : Fast E V) (hpc : PcOK V st.pc) (hG : GlobOK E ρ) (R : Rel V N w0 ρ st w) {a : Act} {ca : Go.Act} (ha : ActRel V ρ a ca.tmps) (c : Call) (tp : TypeId) :
    NRes E V N w0 ρ st w (do let d ← resolve ca.eval c tp; invoke d.target d.args) (callA E a st c tp) := by
  unfold callA
  split
  · trivial
  · rename_i args hargs
    have hc := evs_sound hG ha c.args.toList args hargs
    have hmap : (c.args.toList.map ca.eval).toArray = c.args.map ca.eval := mapArr _ _
    split
    · rename_i b hcal
      refine (builtin_sound F hpc R b c.argTypes tp (c.args.map fun | .const _ => true | _ => false) args _ hc).congr ?_
      simp only [resolve, hcal, Sem.run_bind, Sem.run_pure, Result.andThen_ok, invoke, hmap]
      rfl
    · trivial
    · rename_i f hcal
      cases hf : ev E a f with
      | none => trivial
      | some v =>
        have hcv := ev_sound hG ha hf
        cases v with
        | func fn x y =>
          obtain ⟨g, u, z, hg, hu, hz, hev⟩ := concFunc hcv
          cases fn with
          | func k =>
            simp only [concFn, Option.some.injEq] at hg
            subst hg
            have hall : concs V ρ (x ++ args ++ y) = some (u ++ c.args.toList.map ca.eval ++ z) := by
              rw [concs_append, concs_append, hu, hc, hz]; rfl
            refine (callFuncA_sound F R k hall).congr ?_
            simp only [resolve, hcal, Sem.run_bind, Deferred.ofValue, hev, Sem.run_pure, Result.andThen_ok, invoke]
            congr 2
            simp
          | yield l =>
            cases x with
            | cons _ _ => trivial
            | nil =>
              cases y with
              | cons _ _ => trivial
              | nil =>
                simp only [concFn, Option.map_eq_some_iff] at hg
                obtain ⟨r, hr, rfl⟩ := hg
                simp only [concs, Option.some.injEq] at hu hz
                subst hu; subst hz
                refine ⟨rfl, r, c.args.map ca.eval, hr, by simpa using hc, ?_⟩
                simp only [resolve, hcal, Sem.run_bind, Deferred.ofValue, hev, Sem.run_pure, Result.andThen_ok, invoke]
                congr 2
                simp
          | _ => trivial
        | _ => trivial

theorem optC {a : Act} {ca : Go.Act} (hG : GlobOK E ρ) (ha : ActRel V ρ a ca.tmps) {x : Option Operand} {o : Option AV} (h : x = none ∧ o = none ∨ ∃ y v, x = some y ∧ ev E a y = some v ∧ o = some v) : OptC V ρ o (x.map ca.eval) := by
  rcases h with ⟨rfl, rfl⟩ | ⟨y, v, rfl, hv, rfl⟩
  · exact trivial
  · exact ev_sound hG ha hv

def nilC (c : Value) : Sem Next := match c with
    | .pointer none | .nilIface | .nilFunc => runtimePanic .nilDeref
    | .func (.method name) first captured =>
      match (first[0]? : Option Value) with
      | some .nilIface => runtimePanic .nilDeref
      | some (.iface t w) => do
        if (← nilAhead ((← program).types.size + Made.depth) t w name) != some false then
          unsupported (.noEntry "op/nilCheck.the method's receiver behind this interface value is a nil pointer, or cannot be seen to be none, and the arguments act or may panic (ledger 612)")
        pure (.value (.func (.method name) first captured))
      | _ => pure (.value (.func (.method name) first captured))
    | x => pure (.value x)

theorem nilC_plain {c : Value} (h1 : c ≠ .pointer none) (h2 : c ≠ .nilIface) (h3 : c ≠ .nilFunc) (h4 : ∀ f x y, c ≠ .func f x y) : nilC c = pure (.value c) := by
  cases c with
  | pointer p => cases p with
    | none => exact absurd rfl h1
    | some _ => rfl
  | nilIface => exact absurd rfl h2
  | nilFunc => exact absurd rfl h3
  | func f x y => exact absurd rfl (h4 f x y)
  | _ => rfl

theorem nilCheck_sound (R : Rel V N w0 ρ st w) {v : AV} {c : Value} (hc : conc V ρ v = some c) : NRes E V N w0 ρ st w (nilC c) (match (generalizing := false) v with
    | .ptr none | .nilIface | .nilFunc => .bad "nil"
    | .func (.func f) x y => .val (.func (.func f) x y) st
    | .func _ _ _ => .bad "nilCheck"
    | v => .val v st) := by
  have plain : ∀ (h1 : c ≠ .pointer none) (h2 : c ≠ .nilIface) (h3 : c ≠ .nilFunc) (h4 : ∀ f x y, c ≠ .func f x y), NRes E V N w0 ρ st w (nilC c) (.val v st) :=
    fun h1 h2 h3 h4 => NRes.pure R (by rw [nilC_plain h1 h2 h3 h4]; rfl) hc
  have hs : ∀ a l m, v = .slice a l m → ∃ x y z, c = .slice x y z := by
    rintro a l m rfl
    cases a with
    | none =>
      cases m <;> simp only [conc, reduceCtorEq] at hc
      split at hc <;> simp only [Option.some.injEq, reduceCtorEq] at hc
      exact ⟨_, _, _, hc.symm⟩
    | some q =>
      obtain ⟨l, o⟩ := q
      simp only [conc, Option.bind_eq_some_iff] at hc
      obtain ⟨r, hr, hc⟩ := hc
      split at hc
      · cases m <;> simp only at hc <;> (try split at hc) <;> simp only [Option.some.injEq, reduceCtorEq] at hc <;> exact ⟨_, _, _, hc.symm⟩
      · cases hc
  cases v with
  | bool b => simp only [conc, Option.some.injEq] at hc; subst hc; exact plain (by simp) (by simp) (by simp) (by simp)
  | int k e => simp only [conc, Option.some.injEq] at hc; subst hc; exact plain (by simp) (by simp) (by simp) (by simp)
  | str s =>
    simp only [conc] at hc
    split at hc <;> simp only [Option.some.injEq, reduceCtorEq] at hc
    subst hc; exact plain (by simp) (by simp) (by simp) (by simp)
  | ptr p =>
    cases p with
    | none => trivial
    | some q => obtain ⟨l, o⟩ := q; obtain ⟨r, _, rfl⟩ := concPtr hc; exact plain (by simp) (by simp) (by simp) (by simp)
  | slice a l m => obtain ⟨x, y, z, rfl⟩ := hs a l m rfl; exact plain (by simp) (by simp) (by simp) (by simp)
  | map r =>
    cases r with
    | none => simp only [conc, Option.some.injEq] at hc; subst hc; exact plain (by simp) (by simp) (by simp) (by simp)
    | some l => simp only [conc, Option.map_eq_some_iff] at hc; obtain ⟨r, _, rfl⟩ := hc; exact plain (by simp) (by simp) (by simp) (by simp)
  | func fn x y =>
    cases fn with
    | func f =>
      obtain ⟨g, u, z, hg, hu, hz, rfl⟩ := concFunc hc
      simp only [concFn, Option.some.injEq] at hg
      subst hg
      exact NRes.pure R rfl hc
    | _ => trivial
  | nilFunc => trivial
  | iface t u => simp only [conc, Option.map_eq_some_iff] at hc; obtain ⟨r, _, rfl⟩ := hc; exact plain (by simp) (by simp) (by simp) (by simp)
  | nilIface => trivial
  | agg cs => simp only [conc, Option.map_eq_some_iff] at hc; obtain ⟨r, _, rfl⟩ := hc; exact plain (by simp) (by simp) (by simp) (by simp)
  | tuple cs => simp only [conc, Option.map_eq_some_iff] at hc; obtain ⟨r, _, rfl⟩ := hc; exact plain (by simp) (by simp) (by simp) (by simp)

theorem makeInterface_sound (R : Rel V N w0 ρ st w) (t : TypeId) {v : AV} {c : Value} (hc : conc V ρ v = some c) : VRes E V N w0 ρ st w (Instr.makeInterface t c) (match und E t with | some (.interface _) | none => .bad "makeInterface" | some _ => .val (.iface t v) st) := by
  cases hd : und E t with
  | none => trivial
  | some d =>
    cases d with
    | interface _ => trivial
    | _ => exact VRes.pure R (cv := .iface t c) (by simp only [Instr.makeInterface, Sem.run_bind, run_und hd, Result.andThen_ok]; rfl) (by simp [conc, hc])

theorem makeFunc_sound (hG : GlobOK E ρ) (R : Rel V N w0 ρ st w) {a : Act} {ca : Go.Act} (ha : ActRel V ρ a ca.tmps) (fn : Fn) (first cap : Array Operand) :
    VRes E V N w0 ρ st w (Instr.makeFunc fn (first.map ca.eval) (cap.map ca.eval)) (match (generalizing := false) fn, evs E a first.toList, evs E a cap.toList with
    | .func f, some x, some y => .val (.func (.func f) x y) st
    | _, _, _ => .bad "makeFunc") := by
  cases fn with
  | func f =>
    cases hx : evs E a first.toList with
    | none => trivial
    | some x =>
      cases hy : evs E a cap.toList with
      | none => trivial
      | some y =>
        have h1 := evs_sound hG ha _ _ hx
        have h2 := evs_sound hG ha _ _ hy
        refine VRes.pure R (cv := .func (.func f) (first.map ca.eval) (cap.map ca.eval)) rfl ?_
        simp only [conc, concFn, h1, h2, Option.bind_some, Option.map_some]
        rw [mapArr, mapArr]
  | _ => trivial

theorem exec_sound (F : Fast E V) (hpc : PcOK V st.pc) (hG : GlobOK E ρ) (R : Rel V N w0 ρ st w) {a : Act} {ca : Go.Act} (ha : ActRel V ρ a ca.tmps) (o : Oper) :
    NRes E V N w0 ρ st w (execOp ca.eval o) (opA E a st o) := by
  have ev' : ∀ {x v}, ev E a x = some v → conc V ρ v = some (ca.eval x) := fun h => ev_sound hG ha h
  unfold opA execOp
  cases ho : o.op with
  | move x => exact NRes.e1 fun v hv => NRes.pure R rfl (ev' hv)
  | assign x => exact NRes.e1 fun v hv => NRes.pure R rfl (ev' hv)
  | pick c x y =>
    refine NRes.e1 fun cv hcv => ?_
    have hc := ev' hcv
    dsimp only
    split
    · rename_i b
      simp only [conc, Option.some.injEq] at hc
      refine NRes.onB hpc fun r hr => ?_
      rw [hr] at hc
      cases r
      · exact NRes.e1 fun v hv => NRes.pure R (by simp only [Sem.run_bind, ← hc, asBool, Sem.run_pure, Result.andThen_ok, Bool.false_eq_true, if_false]) (ev' hv)
      · exact NRes.e1 fun v hv => NRes.pure R (by simp only [Sem.run_bind, ← hc, asBool, Sem.run_pure, Result.andThen_ok, if_true]) (ev' hv)
    · trivial
  | alloc t => exact NRes.ofV (allocOp_sound R t)
  | box t x => exact NRes.e1 fun v hv => NRes.ofV (box_sound R t (ev' hv))
  | build t parts => exact NRes.ofV (build_sound F.p hG R ha t parts)
  | buildSlice t len parts => exact NRes.ofV (buildSlice_sound F.z hG R ha t len parts)
  | load t x => exact NRes.e1 fun v hv => NRes.ofV (load_sound R t (ev' hv))
  | store t x y => exact NRes.e1 fun v hv => NRes.ofU (by
      cases hy : ev E a y with
      | none =>
        cases v <;> try exact trivial
        rename_i p
        cases p with
        | none => exact trivial
        | some q => obtain ⟨l, o⟩ := q; show URes _ _ _ _ _ _ _ _ (match ev E a y with | some v => _ | none => OpRes.bad "operand"); rw [hy]; exact trivial
      | some u =>
        have := store_sound (E := E) R t (ev' hv) (ev' hy)
        unfold storeA at this
        cases v <;> try exact trivial
        rename_i p
        cases p with
        | none => exact trivial
        | some q => obtain ⟨l, o⟩ := q; show URes _ _ _ _ _ _ _ _ (match ev E a y with | some v => _ | none => OpRes.bad "operand"); rw [hy]; exact this)
  | nilCheck x => exact NRes.e1 fun v hv => nilCheck_sound R (ev' hv)
  | binOp op t x y _ => exact NRes.e1 fun u hu => NRes.e1 fun v hv => NRes.ofV (binOp_sound F.ok hpc R (ev' hu) (ev' hv) op x y)
  | unOp op _ x => exact NRes.e1 fun v hv => NRes.ofV (unOp_sound F.ok R op (ev' hv))
  | convert s d x => exact NRes.e1 fun v hv => NRes.ofV (convert_sound F.ok R s d (ev' hv))
  | makeInterface t x => exact NRes.e1 fun v hv => NRes.ofV (makeInterface_sound R t (ev' hv))
  | makeFunc fn first cap => exact NRes.ofV (makeFunc_sound hG R ha fn first cap)
  | makeMap t r =>
    cases r with
    | none => exact NRes.ofV (makeMap_sound R t (r := none) (cr := none) trivial)
    | some x =>
      exact NRes.e1 fun v hv => NRes.ofV (makeMap_sound R t (r := some v) (cr := some (ca.eval x)) (ev' hv))
  | makeSlice t l c => exact NRes.e1 fun lv hl => NRes.e1 fun cv hcv => NRes.ofV (makeSlice_sound F.z R t (ev' hl) (ev' hcv))
  | slice t x lo hi mx =>
    refine NRes.bif (fun _ => trivial) fun hb => NRes.e1 fun v hv => NRes.eo fun l hl => NRes.eo fun h hh => NRes.eo fun m hm => NRes.ofV (slice_sound R t (ev' hv) (optC hG ha hl) (optC hG ha hh) (optC hG ha hm) fun hm0 => ?_)
    rcases hm with ⟨rfl, rfl⟩ | ⟨y, u, rfl, _, rfl⟩
    · exact absurd rfl hm0
    · rcases hh with ⟨rfl, rfl⟩ | ⟨z, u', rfl, _, rfl⟩
      · cases hb
      · simp
  | fieldAddr t x f => exact NRes.e1 fun v hv => NRes.ofV (fieldAddr_sound R t (ev' hv) f)
  | field t x f => exact NRes.e1 fun v hv => NRes.ofV (field_sound R t (ev' hv) f)
  | indexAddr t x i => exact NRes.e1 fun v hv => NRes.e1 fun j hj => NRes.ofV (indexAddr_sound F.ok hpc R t (ev' hv) (ev' hj))
  | index t x i => exact NRes.e1 fun v hv => NRes.e1 fun j hj => NRes.ofV (index_sound R t (ev' hv) (ev' hj))
  | lookup t x k ok => exact NRes.e1 fun v hv => NRes.e1 fun u hu => NRes.ofV (lookup_sound F.ok hpc R t (ev' hv) (ev' hu) ok)
  | mapUpdate t m k x => exact NRes.e1 fun mv hm => NRes.e1 fun kv hk => NRes.e1 fun v hv => NRes.ofU (mapUpdate_sound F.ok hpc R t (ev' hm) (ev' hk) (ev' hv))
  | insert t m k x => exact NRes.e1 fun mv hm => NRes.e1 fun kv hk => NRes.e1 fun v hv => NRes.ofU (mapUpdate_sound F.ok hpc R t (ev' hm) (ev' hk) (ev' hv))
  | range t x => exact NRes.e1 fun v hv => NRes.ofV (range_sound R t (ev' hv))
  | next it isString => exact NRes.e1 fun v hv => NRes.ofV (next_sound R (ev' hv) isString o.type)
  | entry it => exact NRes.e1 fun v hv => NRes.ofV (entry_sound R (ev' hv))
  | extract x i =>
    refine NRes.e1 fun v hv => ?_
    exact NRes.ofV (extract_sound R (ev' hv) i)
  | call c => exact call_sound F hpc hG R ha c o.type
  | _ => exact trivial

end Go.Abs

/- New memory, told without an abstract state. -/
namespace Go.Abs
variable {V : Val} {N : Nat} {w0 w w' : World} {ρ : Rho} {st st' : St} {E : Env}

def RawNew (E : Env) (V : Val) (ρ : Rho) (w : World) (s : Sem Next) (obj : AObj) (mk : Nat → AV) : Prop :=
  ∃ x c e cap, s.run E.P w = .ok (.value c) (w.alloc x) ∧ obj.wr = true ∧ (∀ cs m, obj = .cells cs m → m.al = none) ∧
    ∀ l, ρ l = none → ObjRel V (ρ.upd l ⟨w.heap.size, 0, e, cap⟩) (w.alloc x) ⟨w.heap.size, 0, e, cap⟩ obj ∧ conc V (ρ.upd l ⟨w.heap.size, 0, e, cap⟩) (mk l) = some c

theorem raw_cells {cs : List AV} {carr : Array Value} (hc : concs V ρ cs = some carr.toList) (elem : TypeId) {l : Nat} (hl : ρ l = none) :
    ObjRel V (ρ.upd l ⟨w.heap.size, 0, carr.size, 0⟩) (w.alloc (.cells carr elem)) ⟨w.heap.size, 0, carr.size, 0⟩ (solo cs elem) := by
  have hle : Rho.le ρ (ρ.upd l ⟨w.heap.size, 0, carr.size, 0⟩) := Rho.le_upd hl
  have hcc := concs_cellsAt (rest := []) hc
  simp only [List.append_nil] at hcc
  refine ⟨carr, (0, 0), ?_, rfl, ?_, hcc.mono hle, fun _ => ⟨fun j _ _ => by omega, fun _ => .inl rfl⟩, (fun sz h => by cases h), fun _ => rfl⟩
  · show (w.heap.push _)[w.heap.size]? = _
    simp [elemT]
  · have := concs_length _ _ hc
    simp only [Array.length_toList] at this
    show 0 + cs.length ≤ carr.size
    omega

theorem raw_of {cs : List AV} {carr : Array Value} {elem : TypeId} {s : Sem Value} {mk : Nat → AV} {c : Value} (hc : concs V ρ cs = some carr.toList) (hs : s.run E.P w = .ok c (w.alloc (.cells carr elem)))
    (hm : ∀ l, (ρ.upd l ⟨w.heap.size, 0, carr.size, 0⟩) l = some ⟨w.heap.size, 0, carr.size, 0⟩ → conc V (ρ.upd l ⟨w.heap.size, 0, carr.size, 0⟩) (mk l) = some c) :
    RawNew E V ρ w (do pure (.value (← s))) (solo cs elem) mk :=
  ⟨_, c, carr.size, 0, by simp only [Sem.run_bind, hs, Result.andThen_ok, Sem.run_pure], rfl, (fun cs m e => by cases e; rfl), fun l hl => ⟨raw_cells hc elem hl, hm l (Rho.upd_same _ _)⟩⟩

theorem raw_var {t : TypeId} {v : AV} {c : Value} (hc : conc V ρ v = some c) {s : Sem Value} (hs : s.run E.P w = .ok (.pointer (some ⟨w.heap.size, 0, none⟩)) (w.alloc (.cells c.cells t))) :
    RawNew E V ρ w (do pure (.value (← s))) (solo v.cells t) (fun l => .ptr (some (l, 0))) :=
  raw_of (cells_conc hc) hs fun l h => concPtr0 h rfl

theorem raw_map {s : Sem Value} (hs : s.run E.P w = .ok (.map (some w.heap.size)) (w.alloc (.map #[] 0))) : RawNew E V ρ w (do pure (.value (← s))) (.map [] 0 false) (fun l => .map (some l)) :=
  ⟨_, _, 0, 0, by simp only [Sem.run_bind, hs, Result.andThen_ok, Sem.run_pure]; rfl, rfl, (fun cs m e => by cases e), fun l hl => ⟨⟨#[], [], alloc_get w _, rfl, fun _ => rfl, List.Perm.refl _⟩, by simp [conc, Rho.upd_same]⟩⟩

theorem newA_sound (F : Fast E V) (hG : GlobOK E ρ) {a : Act} {ca : Go.Act} (ha : ActRel V ρ a ca.tmps) (o : Oper) {obj : AObj} {mk : Nat → AV} (h : newA E a o = some (obj, mk)) :
    RawNew E V ρ w (execOp ca.eval o) obj mk := by
  have ev' : ∀ {x v}, ev E a x = some v → conc V ρ v = some (ca.eval x) := fun h => ev_sound hG ha h
  unfold newA at h
  unfold execOp
  cases ho : o.op with
  | alloc t =>
    rw [ho] at h
    simp only at h
    split at h
    · rename_i z hz
      simp only [Option.some.injEq, Prod.mk.injEq] at h
      obtain ⟨rfl, rfl⟩ := h
      obtain ⟨c, h1, h2⟩ := concZero (V := V) (ρ := ρ) hz w
      refine raw_var h2 ?_
      simp only [Instr.alloc, newVar, newRow, Sem.run_bind, h1, Result.andThen_ok, run_alloc, Sem.run_pure]
    · cases h
  | box t x =>
    rw [ho] at h
    simp only at h
    split at h
    · rename_i v hv
      simp only [Option.some.injEq, Prod.mk.injEq] at h
      obtain ⟨rfl, rfl⟩ := h
      refine raw_var (ev' hv) ?_
      simp only [Instr.box, newVar, newRow, Sem.run_bind, Result.andThen_ok, run_alloc, Sem.run_pure]
    · cases h
  | buildSlice t len parts =>
    rw [ho] at h
    simp only at h
    split at h
    · rename_i elem hu
      split at h
      · rename_i n z hn hz
        cases hb : Nat.ble (len * n) 100000 <;> rw [hb] at h <;> simp only [cond, reduceCtorEq] at h
        have hb := ble hb
        split at h
        · rename_i cs hf
          simp only [Option.some.injEq, Prod.mk.injEq] at h
          obtain ⟨rfl, rfl⟩ := h
          obtain ⟨i, c, hi, hc, hsz, hcc⟩ := zeroCellsN_sound (V := V) (ρ := ρ) F.z hz
          have hni : n = i.size := by simp only [Abs.sizeOf, hi, Option.map_some, Option.some.injEq] at hn; exact hn.symm
          obtain ⟨carr', q1, q2⟩ := fillR_sound hG ha n parts.toList z cs _ hf hcc
          refine raw_of (c := .slice (some ⟨w.heap.size, 0, none⟩) len len) q2 ?_ fun l h => conc_new h rfl len len
          simp only [Instr.buildSlice, Sem.run_bind, run_und hu, Result.andThen_ok, run_size hn]
          rw [if_neg (by omega)]
          have hcs : c.cells.size = n := by rw [hsz, hni]
          rw [hcs] at q1
          rw [← Array.toList_map] at q1
          have hzv : (zeroValue elem).run E.P w = .ok c w := by simp [zeroValue, run_info hi, hc]
          by_cases h0 : len * n = 0
          · rw [if_pos h0]
            have q1' : Instr.fill (fun i => some (i * n, n)) (Array.map (fun x => (#[] : Array Value)[x % (#[] : Array Value).size]!) (Array.range (len * n))) (parts.map fun (i, x) => (i, ca.eval x)).toList = some carr' := by
              rw [h0] at q1 ⊢; rw [show (Array.range 0) = #[] from rfl, Array.map_empty] at q1 ⊢; exact q1
            simp only [Sem.run_bind, Result.andThen_ok, Sem.run_pure, q1', newRow, run_alloc]
          · rw [if_neg h0]
            simp only [Sem.run_bind, Result.andThen_ok, Sem.run_pure, hzv, hcs, q1, newRow, run_alloc]
        · cases h
      · cases h
    · cases h
  | makeMap t r =>
    rw [ho] at h
    cases r with
    | none =>
      simp only [Option.some.injEq, Prod.mk.injEq] at h
      obtain ⟨rfl, rfl⟩ := h
      exact raw_map rfl
    | some x =>
      simp only at h
      split at h
      · rename_i k n key elem hx hu
        simp only [Option.some.injEq, Prod.mk.injEq] at h
        obtain ⟨rfl, rfl⟩ := h
        have hv := ev' hx
        simp only [conc, Option.some.injEq] at hv
        refine raw_map ?_
        simp only [Option.map_some, ← hv, Instr.makeMap, Sem.run_bind, run_und hu, Result.andThen_ok, asInt, asIntOf, Sem.run_pure, run_alloc]
      · cases h
  | makeSlice t lx cx =>
    rw [ho] at h
    simp only at h
    split at h
    · rename_i k n k' m elem hl hc hu
      have hl := ev' hl
      have hc := ev' hc
      simp only [conc, Option.some.injEq, SI.I] at hl hc
      split at h
      · rename_i z bytes hz hby
        cases hb : (decide (0 ≤ n) && decide (n ≤ m) && decide (m * bytes ≤ 100000000) && decide (m ≤ 100000000)) <;> rw [hb] at h <;> simp only [cond, reduceCtorEq, Option.some.injEq, Prod.mk.injEq] at h
        obtain ⟨rfl, rfl⟩ := h
        simp only [Bool.and_eq_true, decide_eq_true_eq] at hb
        obtain ⟨⟨⟨h0, h1⟩, h2⟩, h3⟩ := hb
        obtain ⟨i, c, hi, hc', hsz, hcc⟩ := zeroCellsN_sound (V := V) (ρ := ρ) F.z hz
        have hbi : bytes = i.bytes := by simp only [hi, Option.map_some, Option.some.injEq] at hby; exact hby.symm
        subst hbi
        refine raw_of (c := .slice (some ⟨w.heap.size, 0, none⟩) n.toNat m.toNat) hcc ?_ fun l h => ?_
        · have hwn : IntKind.i64.wrap n = n := wrap_id _ _ (by simp [IntKind.min, IntKind.bits, IntKind.signed]; omega) (by simp [IntKind.max, IntKind.bits, IntKind.signed]; omega)
          have hwm : IntKind.i64.wrap m = m := wrap_id _ _ (by simp [IntKind.min, IntKind.bits, IntKind.signed]; omega) (by simp [IntKind.max, IntKind.bits, IntKind.signed]; omega)
          have hcells : (Go.sizeOf elem).run E.P w = .ok i.size w := by simp [Go.sizeOf, run_info hi]
          simp only [Instr.makeSlice, ← hl, ← hc, Sem.run_bind, run_und hu, Result.andThen_ok, asInt, asIntOf, Sem.run_pure, run_info hi, hwn, hwm]
          rw [if_neg (by
            have : ¬ ((i.bytes : Int) * m > 2 ^ 48) := by rw [Int.mul_comm]; omega
            simp only [Bool.or_eq_true, decide_eq_true_eq, not_or]; omega)]
          have hzv : (zeroValue elem).run E.P w = .ok c w := by simp [zeroValue, run_info hi, hc']
          simp only [Sem.run_bind, run_askRoom, Result.andThen_ok, hcells]
          by_cases h0 : m.toNat * i.size = 0
          · rw [if_pos h0]
            have q1' : Array.map (fun x => (#[] : Array Value)[x % (#[] : Array Value).size]!) (Array.range (m.toNat * i.size)) = Array.map (c.cells[· % c.cells.size]!) (Array.range (m.toNat * c.cells.size)) := by
              rw [hsz, h0]; simp
            simp only [Sem.run_bind, Result.andThen_ok, Sem.run_pure, q1', newRow, run_alloc]
          · rw [if_neg h0]
            simp only [Sem.run_bind, Result.andThen_ok, Sem.run_pure, hzv, hsz, newRow, run_alloc]
        · have : n = ((n.toNat : Nat) : Int) := by omega
          rw [this]
          exact conc_new h rfl _ _
      · cases h
    · cases h
  | _ => rw [ho] at h; cases h

end Go.Abs

/- What an operation looks at; those that leave all as it is. -/
namespace Go.Abs
variable {V : Val} {N : Nat} {w0 w w' : World} {ρ : Rho} {st st' : St} {E : Env}

/-! ### Only the operands count -/
section
variable {a a' : Act}

theorem evs_congr : ∀ (xs : List Operand), (∀ x ∈ xs, ev E a x = ev E a' x) → evs E a xs = evs E a' xs
  | [], _ => rfl
  | x :: r, h => by
    simp only [evs, h x (by simp), evs_congr r (fun y hy => h y (by simp [hy]))]

theorem fillS_congr (fs : Array Field) : ∀ (ps : List (Nat × Operand)) (cs : List AV), (∀ p ∈ ps, ev E a p.2 = ev E a' p.2) → fillS E fs a cs ps = fillS E fs a' cs ps
  | [], _, _ => rfl
  | (i, x) :: r, cs, h => by
    have h0 := h (i, x) (by simp)
    simp only at h0
    have hr := fun cs => fillS_congr fs r cs (fun y hy => h y (by simp [hy]))
    simp only [fillS, h0, hr]

theorem fillR_congr (sz : Nat) : ∀ (ps : List (Nat × Operand)) (cs : List AV), (∀ p ∈ ps, ev E a p.2 = ev E a' p.2) → fillR E sz a cs ps = fillR E sz a' cs ps
  | [], _, _ => rfl
  | (i, x) :: r, cs, h => by
    have h0 := h (i, x) (by simp)
    simp only at h0
    have hr := fun cs => fillR_congr sz r cs (fun y hy => h y (by simp [hy]))
    simp only [fillR, h0, hr]

theorem callA_congr (c : Call) (t : TypeId) (h : ∀ x ∈ c.operands, ev E a x = ev E a' x) : callA E a st c t = callA E a' st c t := by
  have hargs : evs E a c.args.toList = evs E a' c.args.toList := evs_congr _ fun x hx => h x (by simp [Call.operands]; exact .inr (by simpa using hx))
  unfold callA
  rw [hargs]
  cases evs E a' c.args.toList with
  | none => rfl
  | some args =>
    simp only
    cases hc : c.callee with
    | builtin b => rfl
    | invoke r m => rfl
    | value f =>
      have : ev E a f = ev E a' f := h f (by simp [Call.operands, hc])
      simp only [this]

theorem parts_ops {ps : Array (Nat × Operand)} (h : ∀ x ∈ (ps.toList.map (·.2)).toArray, ev E a x = ev E a' x) : ∀ p ∈ ps.toList, ev E a p.2 = ev E a' p.2 :=
  fun p hp => h p.2 (by simpa using ⟨p.1, by simpa using hp⟩)

theorem opA_congr (o : Oper) (h : ∀ x ∈ o.op.operands, ev E a x = ev E a' x) : opA E a st o = opA E a' st o := by
  obtain ⟨dst, op, type, pos, after, guard⟩ := o
  cases op <;> simp only [Op.operands] at h
  case build t ps => unfold opA; simp only [fillS_congr _ _ _ (parts_ops h), fillR_congr _ _ _ (parts_ops h)]
  case buildSlice t n ps => unfold opA; simp only [fillR_congr _ _ _ (parts_ops h)]
  case makeFunc fn first cap =>
    have h1 : evs E a first.toList = evs E a' first.toList := evs_congr _ fun x hx => h x (by simp; exact .inl (by simpa using hx))
    have h2 : evs E a cap.toList = evs E a' cap.toList := evs_congr _ fun x hx => h x (by simp; exact .inr (by simpa using hx))
    unfold opA; simp only [h1, h2]
  case call c => unfold opA; exact callA_congr c type h
  case makeMap t r => cases r <;> unfold opA <;> simp_all
  case slice t x lo hi mx => cases lo <;> cases hi <;> cases mx <;> unfold opA <;> simp_all
  all_goals (unfold opA; first | rfl | (simp_all; done))

theorem newA_congr (o : Oper) (h : ∀ x ∈ o.op.operands, ev E a x = ev E a' x) : newA E a o = newA E a' o := by
  obtain ⟨dst, op, type, pos, after, guard⟩ := o
  cases op <;> simp only [Op.operands] at h
  case buildSlice t n ps => unfold newA; simp only [fillR_congr _ _ _ (parts_ops h)]
  case makeMap t r => cases r <;> unfold newA <;> simp_all
  all_goals (unfold newA; first | rfl | (simp_all; done))
end

/-! ### Those that leave all as it is -/
def Keeps (st : St) (r : OpRes) : Prop := ∀ v st', r = .val v st' → st' = st

theorem Keeps.val {v : AV} : Keeps st (.val v st) := fun _ _ e => by cases e; rfl
theorem Keeps.bad {w : String} : Keeps st (.bad w) := fun _ _ e => by cases e
theorem Keeps.split {c : SB} : Keeps st (.split c) := fun _ _ e => by cases e
theorem Keeps.call {f : FuncId} {args : List AV} : Keeps st (.call f args st) := fun _ _ e => by cases e
theorem Keeps.skip {s : St} : Keeps st (.skip s) := fun _ _ e => by cases e
theorem Keeps.onB {c : SB} {k : Bool → OpRes} (h : ∀ b, Keeps st (k b)) : Keeps st (onB st c k) := by
  unfold Abs.onB; split
  · exact h _
  · exact Keeps.split
theorem Keeps.onOB {r : Option Bool ⊕ SB} {k : Bool → OpRes} (h : ∀ b, Keeps st (k b)) : Keeps st (onOB r k) := by
  unfold Abs.onOB; split
  · exact h _
  · exact Keeps.bad
  · exact Keeps.split
theorem Keeps.onFind {r : (Option (Option (Nat × AV))) ⊕ SB} {k : Option (Nat × AV) → OpRes} (h : ∀ b, Keeps st (k b)) : Keeps st (onFind r k) := by
  unfold Abs.onFind; split
  · exact h _
  · exact Keeps.bad
  · exact Keeps.split
theorem Keeps.onAddr {v : AV} {k : Nat → Nat → OpRes} (h : ∀ l o, Keeps st (k l o)) : Keeps st (onAddr v k) := by
  unfold Abs.onAddr; split
  · exact h _ _
  · exact Keeps.bad
theorem Keeps.ofOpt {o : Option AV} {w : String} : Keeps st (ofOpt st o w) := by
  unfold Abs.ofOpt; split
  · exact Keeps.val
  · exact Keeps.bad
theorem Keeps.bif {b : Bool} {x y : OpRes} (h : Keeps st x) (h' : Keeps st y) : Keeps st (bif b then x else y) := by cases b <;> assumption

theorem Keeps.binInt (op : BinOp) (k : IntKind) (a b : SI) : Keeps st (binInt E st op k a b) := by
  unfold Abs.binInt
  (try dsimp only)
  repeat (first | exact Keeps.val | exact Keeps.bad | exact Keeps.split | exact Keeps.ofOpt | exact Keeps.call | (refine Keeps.onB fun _ => ?_) | (refine Keeps.onOB fun _ => ?_) | (refine Keeps.onFind fun _ => ?_) | (refine Keeps.onAddr fun _ _ => ?_) | (refine Keeps.bif ?_ ?_) | split)

theorem Keeps.binShift (op : BinOp) (k : IntKind) (a b : SI) : Keeps st (binShift E st op k a b) := by
  unfold Abs.binShift
  (try dsimp only)
  repeat (first | exact Keeps.val | exact Keeps.bad | exact Keeps.split | exact Keeps.ofOpt | exact Keeps.call | (refine Keeps.onB fun _ => ?_) | (refine Keeps.onOB fun _ => ?_) | (refine Keeps.onFind fun _ => ?_) | (refine Keeps.onAddr fun _ _ => ?_) | (refine Keeps.bif ?_ ?_) | split)

theorem Keeps.binStr (op : BinOp) (a b : List SI) : Keeps st (binStr E st op a b) := by
  unfold Abs.binStr
  (try dsimp only)
  repeat (first | exact Keeps.val | exact Keeps.bad | exact Keeps.split | exact Keeps.ofOpt | exact Keeps.call | (refine Keeps.onB fun _ => ?_) | (refine Keeps.onOB fun _ => ?_) | (refine Keeps.onFind fun _ => ?_) | (refine Keeps.onAddr fun _ _ => ?_) | (refine Keeps.bif ?_ ?_) | split)

theorem Keeps.eqlOp (t : TypeId) (neg : Bool) (x y : Operand) (a b : AV) : Keeps st (eqlOp E st t neg x y a b) := by
  unfold Abs.eqlOp
  (try dsimp only)
  repeat (first | exact Keeps.val | exact Keeps.bad | exact Keeps.split | exact Keeps.ofOpt | exact Keeps.call | (refine Keeps.onB fun _ => ?_) | (refine Keeps.onOB fun _ => ?_) | (refine Keeps.onFind fun _ => ?_) | (refine Keeps.onAddr fun _ _ => ?_) | (refine Keeps.bif ?_ ?_) | split)

theorem Keeps.binOpA (op : BinOp) (t : TypeId) (x y : Operand) (a b : AV) : Keeps st (binOpA E st op t x y a b) := by
  unfold Abs.binOpA
  repeat (first | exact Keeps.binInt _ _ _ _ | exact Keeps.binShift _ _ _ _ | exact Keeps.binStr _ _ _ | exact Keeps.eqlOp _ _ _ _ _ _ | exact Keeps.val | exact Keeps.bad | exact Keeps.split | exact Keeps.ofOpt | exact Keeps.call | (refine Keeps.onB fun _ => ?_) | (refine Keeps.onOB fun _ => ?_) | (refine Keeps.onFind fun _ => ?_) | (refine Keeps.onAddr fun _ _ => ?_) | (refine Keeps.bif ?_ ?_) | split)

theorem Keeps.unOpA (op : UnOp) (a : AV) : Keeps st (unOpA E st op a) := by
  unfold Abs.unOpA
  (try dsimp only)
  repeat (first | exact Keeps.val | exact Keeps.bad | exact Keeps.split | exact Keeps.ofOpt | exact Keeps.call | (refine Keeps.onB fun _ => ?_) | (refine Keeps.onOB fun _ => ?_) | (refine Keeps.onFind fun _ => ?_) | (refine Keeps.onAddr fun _ _ => ?_) | (refine Keeps.bif ?_ ?_) | split)

theorem Keeps.sliceA (t : TypeId) (x : AV) (lo hi mx : Option AV) : Keeps st (sliceA E st t x lo hi mx) := by
  unfold Abs.sliceA
  (try dsimp only)
  repeat (first | exact Keeps.val | exact Keeps.bad | exact Keeps.split | exact Keeps.ofOpt | exact Keeps.call | (refine Keeps.onB fun _ => ?_) | (refine Keeps.onOB fun _ => ?_) | (refine Keeps.onFind fun _ => ?_) | (refine Keeps.onAddr fun _ _ => ?_) | (refine Keeps.bif ?_ ?_) | split)

theorem Keeps.indexAddrA (t : TypeId) (x i : AV) : Keeps st (indexAddrA E st t x i) := by
  unfold Abs.indexAddrA
  (try dsimp only)
  repeat (first | exact Keeps.val | exact Keeps.bad | exact Keeps.split | exact Keeps.ofOpt | exact Keeps.call | (refine Keeps.onB fun _ => ?_) | (refine Keeps.onOB fun _ => ?_) | (refine Keeps.onFind fun _ => ?_) | (refine Keeps.onAddr fun _ _ => ?_) | (refine Keeps.bif ?_ ?_) | split)

theorem Keeps.indexA (t : TypeId) (x i : AV) : Keeps st (indexA E st t x i) := by
  unfold Abs.indexA
  (try dsimp only)
  repeat (first | exact Keeps.val | exact Keeps.bad | exact Keeps.split | exact Keeps.ofOpt | exact Keeps.call | (refine Keeps.onB fun _ => ?_) | (refine Keeps.onOB fun _ => ?_) | (refine Keeps.onFind fun _ => ?_) | (refine Keeps.onAddr fun _ _ => ?_) | (refine Keeps.bif ?_ ?_) | split)

theorem Keeps.fieldAddrA (t : TypeId) (x : AV) (f : Nat) : Keeps st (fieldAddrA E st t x f) := by
  unfold Abs.fieldAddrA
  (try dsimp only)
  repeat (first | exact Keeps.val | exact Keeps.bad | exact Keeps.split | exact Keeps.ofOpt | exact Keeps.call | (refine Keeps.onB fun _ => ?_) | (refine Keeps.onOB fun _ => ?_) | (refine Keeps.onFind fun _ => ?_) | (refine Keeps.onAddr fun _ _ => ?_) | (refine Keeps.bif ?_ ?_) | split)

theorem Keeps.fieldA (t : TypeId) (x : AV) (f : Nat) : Keeps st (fieldA E st t x f) := by
  unfold Abs.fieldA
  (try dsimp only)
  repeat (first | exact Keeps.val | exact Keeps.bad | exact Keeps.split | exact Keeps.ofOpt | exact Keeps.call | (refine Keeps.onB fun _ => ?_) | (refine Keeps.onOB fun _ => ?_) | (refine Keeps.onFind fun _ => ?_) | (refine Keeps.onAddr fun _ _ => ?_) | (refine Keeps.bif ?_ ?_) | split)

theorem Keeps.lookupA (t : TypeId) (x k : AV) (ok : Bool) : Keeps st (lookupA E st t x k ok) := by
  unfold Abs.lookupA
  (try dsimp only)
  repeat (first | exact Keeps.val | exact Keeps.bad | exact Keeps.split | exact Keeps.ofOpt | exact Keeps.call | (refine Keeps.onB fun _ => ?_) | (refine Keeps.onOB fun _ => ?_) | (refine Keeps.onFind fun _ => ?_) | (refine Keeps.onAddr fun _ _ => ?_) | (refine Keeps.bif ?_ ?_) | split)

theorem Keeps.lenA (t : TypeId) (x : AV) : Keeps st (lenA E st t x) := by
  unfold Abs.lenA
  (try dsimp only)
  repeat (first | exact Keeps.val | exact Keeps.bad | exact Keeps.split | exact Keeps.ofOpt | exact Keeps.call | (refine Keeps.onB fun _ => ?_) | (refine Keeps.onOB fun _ => ?_) | (refine Keeps.onFind fun _ => ?_) | (refine Keeps.onAddr fun _ _ => ?_) | (refine Keeps.bif ?_ ?_) | split)

theorem Keeps.maxA (m : Bool) (l : List AV) : Keeps st (maxA E st m l) := by
  unfold Abs.maxA
  (try dsimp only)
  repeat (first | exact Keeps.val | exact Keeps.bad | exact Keeps.split | exact Keeps.ofOpt | exact Keeps.call | (refine Keeps.onB fun _ => ?_) | (refine Keeps.onOB fun _ => ?_) | (refine Keeps.onFind fun _ => ?_) | (refine Keeps.onAddr fun _ _ => ?_) | (refine Keeps.bif ?_ ?_) | split)

theorem Keeps.quietBuiltin {b : Builtin} (hb : b = .len ∨ b = .cap ∨ b = .max ∨ b = .min) (ts : Array TypeId) (t : TypeId) (args : List AV) : Keeps st (builtinA E st b ts t args) := by
  rcases hb with rfl | rfl | rfl | rfl <;> unfold builtinA <;> repeat (first | contradiction | exact Keeps.binOpA _ _ _ _ _ _ | exact Keeps.unOpA _ _ | exact Keeps.sliceA _ _ _ _ _ | exact Keeps.indexAddrA _ _ _ | exact Keeps.indexA _ _ _ | exact Keeps.fieldAddrA _ _ _ | exact Keeps.fieldA _ _ _ | exact Keeps.lookupA _ _ _ _ | exact Keeps.lenA _ _ | exact Keeps.maxA _ _ | exact Keeps.val | exact Keeps.bad | exact Keeps.split | exact Keeps.ofOpt | exact Keeps.call | (refine Keeps.onB fun _ => ?_) | (refine Keeps.onOB fun _ => ?_) | (refine Keeps.onFind fun _ => ?_) | (refine Keeps.onAddr fun _ _ => ?_) | (refine Keeps.bif ?_ ?_) | split)

theorem Keeps.convertA {s d : TypeId} (h : (match (generalizing := false) und E s, und E d with
    | _, some (.int _) => Cls.q
    | some .string, some .string => .q
    | some (.slice _), some .string => .q
    | _, _ => .l) = .q) (x : AV) : Keeps st (convertA E st s d x) := by
  unfold Abs.convertA
  split
  · exact Keeps.val
  · exact Keeps.val
  · rename_i ds e s' hs hd
    rw [hs, hd] at h
    cases ds <;> cases h
  · rename_i e0 e l o len cap hs hd
    rw [hs, hd] at h
    cases h
  · split
    · split
      · exact Keeps.val
      · exact Keeps.bad
    · exact Keeps.bad
  · rename_i u l o hs hd
    rw [hs, hd] at h
    cases h
  · rename_i u l o hs hd
    rw [hs, hd] at h
    cases h
  · exact Keeps.bad

theorem opA_quiet (a : Act) (o : Oper) (h : cls E o = .q) : Keeps st (opA E a st o) := by
  obtain ⟨dst, op, type, pos, after, guard⟩ := o
  cases op <;> first | (cases h; done) | skip
  case convert s d x =>
    unfold opA
    dsimp only
    split
    · exact Keeps.convertA h _
    · exact Keeps.bad
  case call c =>
    obtain ⟨callee, args, ts⟩ := c
    cases callee with
    | builtin b =>
      have hb : b = .len ∨ b = .cap ∨ b = .max ∨ b = .min := by
        cases b <;> first | (cases h; done) | simp
      unfold opA callA
      dsimp only
      split
      · exact Keeps.bad
      · exact Keeps.quietBuiltin hb _ _ _
    | _ => cases h
  all_goals
    unfold opA
    dsimp only
    repeat (first | exact Keeps.binOpA _ _ _ _ _ _ | exact Keeps.unOpA _ _ | exact Keeps.sliceA _ _ _ _ _ | exact Keeps.indexAddrA _ _ _ | exact Keeps.indexA _ _ _ | exact Keeps.fieldAddrA _ _ _ | exact Keeps.fieldA _ _ _ | exact Keeps.lookupA _ _ _ _ | exact Keeps.lenA _ _ | exact Keeps.maxA _ _ | exact Keeps.val | exact Keeps.bad | exact Keeps.split | exact Keeps.ofOpt | exact Keeps.call | (refine Keeps.onB fun _ => ?_) | (refine Keeps.onOB fun _ => ?_) | (refine Keeps.onFind fun _ => ?_) | (refine Keeps.onAddr fun _ _ => ?_) | (refine Keeps.bif ?_ ?_) | split)

end Go.Abs
