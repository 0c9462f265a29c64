/- Opening what came in: a datum that the row reads is, cell by cell, the kind of value by which the calls are told; and how much of the bound it takes. Plain, over any program. -/
import Derived.Test.YtclnpedmoelipaaRows
import Derived.Test.YtclnpedmoelipaaWWords
import Derived.ChangeArms
import Derived.DataReads
import Derived.JoinedCond
namespace Go.Proofs.Ytclnpedmoelipaa.Op
open Go Go.Proofs.YtclnpedmoelipaaW.PrintWords

theorem one_le {H : Type} (d : DataW H) : 1 ≤ Rows.uptoBulk d := by
  cases d with
  | lit l => cases l <;> simp [Rows.uptoBulk]
  | nil => simp [Rows.uptoBulk]
  | ptr d => simp [Rows.uptoBulk]
  | slice elems spare => simp [Rows.uptoBulk]
  | agg parts => simp [Rows.uptoBulk]
  | iface t d => simp [Rows.uptoBulk]
  | map entries => simp [Rows.uptoBulk]
  | held h => simp [Rows.uptoBulk]
theorem part_le {H : Type} {d : DataW H} {l : List (DataW H)} (h : d ∈ l) : Rows.uptoBulk d ≤ Rows.uptoBulkAll l := by
  induction l with
  | nil => cases h
  | cons x r ih =>
    simp only [Rows.uptoBulkAll]
    cases List.mem_cons.1 h with
    | inl e => subst e; omega
    | inr e => have := ih e; omega
theorem append {H : Type} (l r : List (DataW H)) : Rows.uptoBulkAll (l ++ r) = Rows.uptoBulkAll l + Rows.uptoBulkAll r := by
  induction l with
  | nil => simp [Rows.uptoBulkAll]
  | cons x l ih => simp only [List.cons_append, Rows.uptoBulkAll, ih]; omega
theorem bound {H : Type} {l : List (DataW H)} (hk : Rows.uptoSmall H l = true) : Rows.uptoBulkAll l ≤ 1048576 := by
  have h : decide (Rows.uptoBulkAll l ≤ 1048576) = true := hk
  exact of_decide_eq_true h

/-- A type's data are told by a kind: each reading gives a value of the kind, which is right and takes no more of the bound than the datum. -/
structure Opens {α : Type} (P : Program) (d : Kd α) (t : TypeId) (ok : α → Prop) (bulk : α → Nat) : Prop where
  sz : P.cellsOf t = d.sz
  open_ : ∀ {H : Type} {enc : TypeId × Value → H} {w : World} {base : Nat} {held : Bool} {fuel : Nat} {cs : List Value} {x : DataW H × List MemPlace},
    DataW.trod enc P w base (fun _ => true) held fuel t cs = some x → ∃ v, d.K w v cs ∧ ok v ∧ bulk v ≤ Rows.uptoBulk x.1

theorem opens_int {P : Program} {t : TypeId} {k : IntKind} (ht : P.underlying t = some (.int k)) (hc : P.cellsOf t = 1) : Opens P (Kd.int k) t (fun x => (Lit.int k x).wf = true) (fun _ => 1) where
  sz := hc
  open_ := fun h => by
    obtain ⟨n, rfl, rfl, hw⟩ := DataW.trod_int ht h
    exact ⟨n, rfl, hw, one_le _⟩
theorem opens_bool {P : Program} {t : TypeId} (ht : P.underlying t = some .bool) (hc : P.cellsOf t = 1) : Opens P Kd.bool t (fun _ => True) (fun _ => 1) where
  sz := hc
  open_ := fun h => by
    obtain ⟨n, rfl, rfl⟩ := DataW.trod_bool ht h
    exact ⟨n, rfl, trivial, one_le _⟩
theorem opens_str {P : Program} {t : TypeId} (ht : P.underlying t = some .string) (hc : P.cellsOf t = 1) : Opens P Kd.string t (fun s => s.size ≤ maxLen) (fun s => s.size + 1) where
  sz := hc
  open_ := fun h => by
    obtain ⟨s, rfl, rfl, hs⟩ := DataW.trod_string ht h
    refine ⟨s, rfl, hs, ?_⟩
    simp only [Rows.uptoBulk]
    have : s.data.toList.length = s.size := by rw [Array.length_toList]; rfl
    omega
theorem opens_iso {α β : Type} {P : Program} {d : Kd α} {t : TypeId} {ok : α → Prop} {bulk : α → Nat} (h : Opens P d t ok bulk) (f : β → α) (g : α → β) (hfg : ∀ x, f (g x) = x) :
    Opens P (Kd.iso d f) t (fun y => ok (f y)) (fun y => bulk (f y)) where
  sz := h.sz
  open_ := fun hx => by
    obtain ⟨v, hk, ho, hb⟩ := h.open_ hx
    exact ⟨g v, by show d.K _ (f (g v)) _; rw [hfg]; exact hk, by rw [hfg]; exact ho, by rw [hfg]; exact hb⟩
theorem opens_mono {α : Type} {P : Program} {d : Kd α} {t : TypeId} {ok ok' : α → Prop} {bulk bulk' : α → Nat} (h : Opens P d t ok bulk) (ho : ∀ x, ok x → ok' x) (hb : ∀ x, bulk' x ≤ bulk x) : Opens P d t ok' bulk' where
  sz := h.sz
  open_ := fun hx => by
    obtain ⟨v, hk, h1, h2⟩ := h.open_ hx
    exact ⟨v, hk, ho v h1, Nat.le_trans (hb v) h2⟩

theorem list_of {α : Type} (n : Nat) (R : Nat → α → Prop) (h : ∀ i, i < n → ∃ v, R i v) : ∃ l : List α, l.length = n ∧ ∀ i v, l[i]? = some v → R i v := by
  induction n with
  | zero => exact ⟨[], rfl, fun i v hv => by simp at hv⟩
  | succ n ih =>
    obtain ⟨l, hl, hr⟩ := ih (fun i hi => h i (by omega))
    obtain ⟨v, hv⟩ := h n (by omega)
    refine ⟨l ++ [v], by simp [hl], fun i u hu => ?_⟩
    by_cases hi : i < l.length
    · rw [List.getElem?_append_left hi] at hu
      exact hr i u hu
    · have hlt := (List.getElem?_eq_some_iff.1 hu).1
      simp at hlt
      obtain rfl : i = n := by omega
      rw [List.getElem?_append_right (by omega)] at hu
      simp [hl] at hu
      subst hu
      exact hv
theorem sum_le {α H : Type} (bulk : α → Nat) : ∀ (l : List α) (ds : List (DataW H)), l.length ≤ ds.length → (∀ (i : Nat) (v : α) (y : DataW H), l[i]? = some v → ds[i]? = some y → bulk v ≤ Rows.uptoBulk y) → (l.map bulk).sum ≤ Rows.uptoBulkAll ds := by
  intro l
  induction l with
  | nil => intro ds _ _; simp
  | cons a l ih =>
    intro ds hl h
    cases ds with
    | nil => simp at hl
    | cons y ds =>
      have h0 := h 0 a y rfl rfl
      have h1 := ih ds (by simpa using hl) (fun i v y hv hy => h (i + 1) v y (by simpa using hv) (by simpa using hy))
      simp only [List.map_cons, List.sum_cons, Rows.uptoBulkAll]
      omega
theorem opens_slice {α : Type} {P : Program} {d : Kd α} {t e : TypeId} {ok : α → Prop} {bulk : α → Nat} (he : Opens P d e ok bulk) (ht : P.underlying t = some (.slice e)) (hc : P.cellsOf t = 1) :
    Opens P (Kd.slice e d) t (fun xs => (∀ x ∈ xs, ok x) ∧ xs.length ≤ maxLen) (fun xs => (xs.map bulk).sum + 1) where
  sz := hc
  open_ := fun {H enc w base held fuel cs x} h => by
    rcases DataW.trod_slice ht h with ⟨rfl, rfl⟩ | ⟨a, len, cap, elems, rest, n, _, rfl, rfl, hb, hl, hm, hlen, hel, hsp, hns⟩
    · exact ⟨[], ⟨none, 0, rfl, Nat.le_refl _, rfl, by simp, fun h => absurd h (by simp)⟩, ⟨by simp, by simp⟩, by simp [Rows.uptoBulk]⟩
    · obtain ⟨l, hln, hlr⟩ := list_of len (fun i v => ∃ c y, w.cells? base (a.add (i * P.cellsOf e)) (P.cellsOf e) = some c ∧ elems[i]? = some y ∧ d.K w v c ∧ ok v ∧ bulk v ≤ Rows.uptoBulk y.1) (fun i hi => by
        have h1 := hel i hi
        cases hy : elems[i]? with
        | none => rw [List.getElem?_eq_none_iff] at hy; omega
        | some y =>
          rw [hy] at h1
          obtain ⟨c, hc1, hc2⟩ := Option.bind_eq_some_iff.1 h1
          obtain ⟨v, hk, ho, hbk⟩ := he.open_ hc2
          exact ⟨v, c, y, hc1, rfl, hk, ho, hbk⟩)
      have hm' : cap ≤ 9223372036854775807 := hm
      refine ⟨l, ⟨some a, cap, by rw [hln], by omega, hln ▸ rfl, by omega, fun _ => ⟨a, rfl, fun j p hj => ?_⟩⟩, ⟨fun v hv => ?_, by unfold maxLen; omega⟩, ?_⟩
      · obtain ⟨c, y, h1, _, hk, _, _⟩ := hlr j p hj
        obtain ⟨_, hcl, hcc⟩ := World.cells?_some h1
        refine ⟨c, by rw [hcl, he.sz], hk, fun i u hu => ?_⟩
        have hi : i < P.cellsOf e := by have := (List.getElem?_eq_some_iff.1 hu).1; omega
        have := hcc i hi
        rw [hu] at this
        rw [← he.sz]
        have e1 : (a.add (j * P.cellsOf e)).add i = a.add (j * P.cellsOf e + i) := by
          unfold Addr.add
          by_cases h1 : j * P.cellsOf e = 0 <;> by_cases h2 : i = 0 <;> simp [h1, h2, Nat.add_assoc]
        rw [e1] at this
        exact this
      · obtain ⟨i, hi⟩ := List.mem_iff_getElem?.1 hv
        obtain ⟨_, _, _, _, _, ho, _⟩ := hlr i v hi
        exact ho
      · have h1 := sum_le bulk l (elems.map (·.1)) (by simp; omega) (fun i v y hv hy => by
          obtain ⟨c, z, _, hz, _, _, hbk⟩ := hlr i v hv
          simp only [List.getElem?_map, hz, Option.map_some, Option.some.injEq] at hy
          subst hy
          exact hbk)
        simp only [Rows.uptoBulk]
        omega

/-- The fields of a struct from one on. -/
structure OpensF {α : Type} (P : Program) (fs : List Field) (off : Nat) (d : Kd α) (ok : α → Prop) (bulk : α → Nat) : Prop where
  open_ : ∀ {H : Type} {enc : TypeId × Value → H} {w : World} {base : Nat} {held : Bool} {fuel : Nat} {cs : List Value} {xs : List (DataW H × List MemPlace)},
    xs.length = fs.length → (∀ (i : Nat) f y, fs[i]? = some f → xs[i]? = some y → DataW.trod enc P w base (fun _ => true) held fuel f.type ((cs.drop f.offset).take (P.cellsOf f.type)) = some y) → off + d.sz ≤ cs.length →
    ∃ v, d.K w v ((cs.drop off).take d.sz) ∧ ok v ∧ bulk v ≤ Rows.uptoBulkAll (xs.map (·.1))
theorem opensF_one {α : Type} {P : Program} {d : Kd α} {f : Field} {off : Nat} {ok : α → Prop} {bulk : α → Nat} (h : Opens P d f.type ok bulk) (ho : f.offset = off) : OpensF P [f] off d ok bulk where
  open_ := fun {H enc w base held fuel cs xs} hl hx hc => by
    match xs, hl with
    | [y], _ =>
      have h1 := hx 0 f y rfl rfl
      rw [ho, h.sz] at h1
      obtain ⟨v, hk, h2, h3⟩ := h.open_ h1
      refine ⟨v, hk, h2, ?_⟩
      simp only [List.map_cons, List.map_nil, Rows.uptoBulkAll]
      omega
theorem opensF_cons {α β : Type} {P : Program} {a : Kd α} {b : Kd β} {f : Field} {fs : List Field} {off : Nat} {ok : α → Prop} {ok' : β → Prop} {bulk : α → Nat} {bulk' : β → Nat}
    (h : Opens P a f.type ok bulk) (ho : f.offset = off) (hr : OpensF P fs (off + a.sz) b ok' bulk') : OpensF P (f :: fs) off (Kd.pair a b) (fun x => ok x.1 ∧ ok' x.2) (fun x => bulk x.1 + bulk' x.2) where
  open_ := fun {H enc w base held fuel cs xs} hl hx hc => by
    have hcs : off + (a.sz + b.sz) ≤ cs.length := hc
    match xs, hl with
    | y :: ys, hl =>
      have h1 := hx 0 f y rfl rfl
      rw [ho, h.sz] at h1
      obtain ⟨v, hk, h2, h3⟩ := h.open_ h1
      obtain ⟨u, hk', h2', h3'⟩ := hr.open_ (xs := ys) (cs := cs) (fuel := fuel) (held := held) (base := base) (w := w) (enc := enc) (by simpa using hl) (fun i g z hg hz => hx (i + 1) g z (by simpa using hg) (by simpa using hz)) (by omega)
      refine ⟨(v, u), ⟨_, _, ?_, hk, hk'⟩, ⟨h2, h2'⟩, ?_⟩
      · show (cs.drop off).take (a.sz + b.sz) = _
        rw [List.take_add, List.drop_drop]
      · simp only [List.map_cons, Rows.uptoBulkAll]
        omega
theorem opens_struct {α : Type} {P : Program} {d : Kd α} {t : TypeId} {fs : List Field} {ok : α → Prop} {bulk : α → Nat} (h : OpensF P fs 0 d ok bulk) (ht : P.underlying t = some (.struct fs.toArray)) (hc : P.cellsOf t = d.sz) :
    Opens P d t ok (fun x => bulk x + 1) where
  sz := hc
  open_ := fun {H enc w base held fuel cs x} hx => by
    obtain ⟨xs, n, _, rfl, hl, hlen, hf⟩ := DataW.trod_struct ht hx
    obtain ⟨v, hk, ho, hb⟩ := h.open_ (xs := xs) (cs := cs) (fuel := n) (held := held) (base := base) (w := w) (enc := enc) (by simpa using hlen) (fun i f y hfi hy => by
      have := hf i f (by simpa using hfi)
      rw [hy] at this
      exact this) (by omega)
    refine ⟨v, ?_, ho, ?_⟩
    · rw [List.drop_zero, ← hc, ← hl, List.take_length] at hk
      exact hk
    · simp only [Rows.uptoBulk]
      omega

end Go.Proofs.Ytclnpedmoelipaa.Op
