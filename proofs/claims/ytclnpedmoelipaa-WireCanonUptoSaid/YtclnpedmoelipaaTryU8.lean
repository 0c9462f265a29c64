/- try of layer 2 at one type: what a reading leaves, and what a reading that gives up leaves. -/
import Derived.Test.YtclnpedmoelipaaRd
namespace Go.Proofs.Ytclnpedmoelipaa.Rd
open Go Go.RowKit Go.Lib Go.Proofs.Ytclnpedmoelipaa.Vm Go.Proofs.Ytclnpedmoelipaa.Wr Go.Proofs.YtclnpedmoelipaaW.PrintWords
set_option linter.unusedVariables false
set_option linter.unusedSimpArgs false

theorem assert_u8 (er : Int) (w : World) : (Instr.typeAssert (.iface 120 (.agg #[.int .i64 er])) 20 120 true).run Try.prog w = .ok (.tuple #[.agg #[.int .i64 er], .bool true]) w := by kernel_rfl
set_option maxRecDepth 100000 in
theorem idle_u8 (p6 p2 p4 p5 : Addr) (w : World) :
    CallsD Try.prog 119 #[.pointer (some p6), .pointer (some p2), .pointer (some p4), .pointer (some p5)] .returning w fun e u' w' => e = .returned (.tuple #[]) ∧ u' = .returning ∧ w = w' := by
  refine callsD_of_wpS Try.func119 rfl fun c₀ cs hu => ?_
  simp only [Try.ntmps119, List.size_toArray, List.length_cons, List.length_nil, Nat.reduceAdd, Nat.reduceSub, Array.replicate_succ, Array.replicate_zero, List.push_toArray, List.append_toArray, List.nil_append, List.cons_append]
  apply wpS_seq
  apply wpS_region
  simp [wpOpsS, go_sem, recoverD, hu, Exit.thenS]
  refine wpS_of_wp ?_
  go_wp2
  cases c₀
  simp_all [bodyPostS, results, Try.results119]
set_option maxRecDepth 100000 in
theorem caught_u8 (b : Nat) (S : ByteArray) (pos start : Nat) (er er0 : Int) (g6 g2 g4 g5 : Nat) (v0 : Value) (w : World) (h : RdAt w b S pos er0) (h6 : Blk w g6 3 #[.int .i64 (start : Int)]) (h2 : Blk w g2 36 #[.pointer (some ⟨b, 0, none⟩)]) (h4 : Blk w g4 5 #[v0]) (h5 : Blk w g5 38 #[.int .i64 0]) :
    CallsD Try.prog 119 #[.pointer (some ⟨g6, 0, none⟩), .pointer (some ⟨g2, 0, none⟩), .pointer (some ⟨g4, 0, none⟩), .pointer (some ⟨g5, 0, none⟩)] (.panicking [fault er]) w fun e u' w' =>
      e = .returned (.tuple #[]) ∧ u' = .panicking [{ fault er with recovered := true }] ∧ RdAt w' b S start er ∧ Blk w' g4 5 #[.int .u8 0] ∧ Blk w' g5 38 #[.int .i64 er] ∧ Chg (fun k => k = b ∨ k = g4 ∨ k = g5) w w' := by
  have hta := assert_u8 er
  have hsz : b < w.heap.size := Blk.lt h
  have hC1 := Chg.alloc (fun _ => False) w (.cells #[.int .i64 er] 120)
  have hF := heap_new w (.cells #[.int .i64 er] 120)
  have k0 := h.chg hC1 (fun h => h)
  have k6 : Blk (w.alloc (.cells #[.int .i64 er] 120)) g6 3 #[.int .i64 (start : Int)] := (hC1.2 _ h6.lt (fun h => h)).trans h6
  have k2 : Blk (w.alloc (.cells #[.int .i64 er] 120)) g2 36 #[.pointer (some ⟨b, 0, none⟩)] := (hC1.2 _ h2.lt (fun h => h)).trans h2
  have k4 : Blk (w.alloc (.cells #[.int .i64 er] 120)) g4 5 #[v0] := (hC1.2 _ h4.lt (fun h => h)).trans h4
  have k5 : Blk (w.alloc (.cells #[.int .i64 er] 120)) g5 38 #[.int .i64 0] := (hC1.2 _ h5.lt (fun h => h)).trans h5
  refine callsD_of_wpS Try.func119 rfl fun c₀ cs hu => ?_
  simp only [Try.ntmps119, List.size_toArray, List.length_cons, List.length_nil, Nat.reduceAdd, Nat.reduceSub, Array.replicate_succ, Array.replicate_zero, List.push_toArray, List.append_toArray, List.nil_append, List.cons_append]
  apply wpS_seq
  apply wpS_region
  simp [wpOpsS, go_sem, recoverD, hu, fault, Exit.thenS]
  refine wpS_of_wp ?_
  go_wp2
  generalize hW1 : w.alloc (.cells #[.int .i64 er] 120) = W1 at *
  have HW1 := Lib.hid hW1
  clear hW1 hta
  have kF : Blk W1 w.heap.size 120 #[.int .i64 er] := hF
  have cF : W1.cell? ⟨w.heap.size, 0, none⟩ = some (.int .i64 er) := kF.cell 0
  have c0 : W1.cell? ⟨b, 0, none⟩ = some (.int .i64 (pos : Int)) := Blk.cell k0 0
  have c2 : W1.cell? ⟨b, 2, none⟩ = some (.int .i64 er0) := Blk.cell k0 2
  have f0 : W1.frozen? ⟨b, 0, none⟩ = false := Blk.frozen k0 0
  have f2 : W1.frozen? ⟨b, 2, none⟩ = false := Blk.frozen k0 2
  have c6 : W1.cell? ⟨g6, 0, none⟩ = some (.int .i64 (start : Int)) := k6.cell 0
  have cg : W1.cell? ⟨g2, 0, none⟩ = some (.pointer (some ⟨b, 0, none⟩)) := k2.cell 0
  have hb4 : b ≠ g4 := Blk.ne_ k0 k4 (by decide)
  have hb5 : b ≠ g5 := Blk.ne_ k0 k5 (by decide)
  have hbF : b ≠ w.heap.size := Nat.ne_of_lt hsz
  have h45 : g4 ≠ g5 := Blk.ne_ k4 k5 (by decide)
  have h4F : g4 ≠ w.heap.size := Nat.ne_of_lt h4.lt
  have h5F : g5 ≠ w.heap.size := Nat.ne_of_lt h5.lt
  go_region
  have m0 : RdAt ((W1.setCell ⟨b, 0, none⟩ (.int .i64 (start : Int))).setCell ⟨b, 2, none⟩ (.int .i64 er)) b S start er := Blk.set_ (Blk.set_ k0 0 (.int .i64 (start : Int))) 2 (.int .i64 er)
  have m4 := Blk.far (p := ⟨b, 2, none⟩) (Blk.far (p := ⟨b, 0, none⟩) k4 (fun e => hb4 e.symm) (.int .i64 (start : Int))) (fun e => hb4 e.symm) (.int .i64 er)
  have m5 := Blk.far (p := ⟨b, 2, none⟩) (Blk.far (p := ⟨b, 0, none⟩) k5 (fun e => hb5 e.symm) (.int .i64 (start : Int))) (fun e => hb5 e.symm) (.int .i64 er)
  have mF := Blk.far (p := ⟨b, 2, none⟩) (Blk.far (p := ⟨b, 0, none⟩) kF (fun e => hbF e.symm) (.int .i64 (start : Int))) (fun e => hbF e.symm) (.int .i64 er)
  have hC2 : Chg (fun k => k = b ∨ k = g4 ∨ k = g5) w ((W1.setCell ⟨b, 0, none⟩ (.int .i64 (start : Int))).setCell ⟨b, 2, none⟩ (.int .i64 er)) :=
    hC1.none.trans ⟨by simp, fun i hi hf => (heap_set _ _ _ _ (fun e => hf (.inl e))).trans (heap_set _ _ _ _ (fun e => hf (.inl e))), rfl, rfl, rfl⟩
  generalize (W1.setCell ⟨b, 0, none⟩ (.int .i64 (start : Int))).setCell ⟨b, 2, none⟩ (.int .i64 er) = W2 at *
  clear cF c0 c2 f0 f2 c6 cg
  have cF : W2.cell? ⟨w.heap.size, 0, none⟩ = some (.int .i64 er) := mF.cell 0
  have c4 : W2.cell? ⟨g4, 0, none⟩ = some v0 := m4.cell 0
  have f4 : W2.frozen? ⟨g4, 0, none⟩ = false := m4.frozen 0
  have c5 : W2.cell? ⟨g5, 0, none⟩ = some (.int .i64 0) := m5.cell 0
  have f5 : W2.frozen? ⟨g5, 0, none⟩ = false := m5.frozen 0
  have cF' : W2.drew.cell? ⟨w.heap.size, 0, none⟩ = some (.int .i64 er) := cF
  go_wp2
  go_region
  have n0 : RdAt ((W2.setCell ⟨g4, 0, none⟩ (.int .u8 0)).setCell ⟨g5, 0, none⟩ (.int .i64 er)) b S start er := Blk.far (p := ⟨g5, 0, none⟩) (Blk.far (p := ⟨g4, 0, none⟩) m0 hb4 (.int .u8 0)) hb5 (.int .i64 er)
  have n4 : Blk ((W2.setCell ⟨g4, 0, none⟩ (.int .u8 0)).setCell ⟨g5, 0, none⟩ (.int .i64 er)) g4 5 #[.int .u8 0] := Blk.far (p := ⟨g5, 0, none⟩) (Blk.set_ m4 0 (.int .u8 0)) h45 (.int .i64 er)
  have n5 : Blk ((W2.setCell ⟨g4, 0, none⟩ (.int .u8 0)).setCell ⟨g5, 0, none⟩ (.int .i64 er)) g5 38 #[.int .i64 er] := Blk.set_ (Blk.far (p := ⟨g4, 0, none⟩) m5 (fun e => h45 e.symm) (.int .u8 0)) 0 (.int .i64 er)
  have hC3 : Chg (fun k => k = b ∨ k = g4 ∨ k = g5) w ((W2.setCell ⟨g4, 0, none⟩ (.int .u8 0)).setCell ⟨g5, 0, none⟩ (.int .i64 er)) :=
    hC2.trans ⟨by simp, fun i hi hf => (heap_set _ _ _ _ (fun e => hf (.inr (.inr e)))).trans (heap_set _ _ _ _ (fun e => hf (.inr (.inl e)))), rfl, rfl, rfl⟩
  exact ⟨rfl, _, rfl, _, results_none rfl _ _ _, rfl, rfl, n0, n4, n5, ⟨hC3.1, hC3.2, hC3.3⟩⟩

theorem world3_u8 {b : Nat} {S : ByteArray} {pos : Nat} {er : Int} {w : World} (h : RdAt w b S pos er) : ∃ W : World, ((w.alloc (.cells #[.pointer (some ⟨b, 0, none⟩)] 36)).alloc (.cells #[.int .u8 0] 5)).alloc (.cells #[.int .i64 0] 38) = W ∧ W.heap.size = w.heap.size + 1 + 1 + 1 ∧ RdAt W b S pos er ∧
    Blk W w.heap.size 36 #[.pointer (some ⟨b, 0, none⟩)] ∧ Blk W (w.heap.size + 1) 5 #[.int .u8 0] ∧ Blk W (w.heap.size + 1 + 1) 38 #[.int .i64 0] ∧ Chg (fun _ => False) w W := by
  have hsz := Blk.lt h
  refine ⟨_, rfl, by simp, ?_, ?_, ?_, ?_, ?_⟩
  · exact ((heap_old _ _ (by simp; omega)).trans ((heap_old _ _ (by simp; omega)).trans (heap_old _ _ hsz))).trans h
  · unfold Blk; rw [heap_old _ _ (by simp; omega), heap_old _ _ (by simp)]; exact heap_new _ _
  · unfold Blk
    rw [heap_old _ _ (by simp)]
    have := heap_new (w.alloc (.cells #[.pointer (some ⟨b, 0, none⟩)] 36)) (.cells #[.int .u8 0] 5)
    rw [World.size_alloc] at this
    exact this
  · unfold Blk
    have := heap_new ((w.alloc (.cells #[.pointer (some ⟨b, 0, none⟩)] 36)).alloc (.cells #[.int .u8 0] 5)) (.cells #[.int .i64 0] 38)
    rw [World.size_alloc, World.size_alloc] at this
    exact this
  · exact ((Chg.alloc _ _ _).trans (Chg.alloc _ _ _)).trans (Chg.alloc _ _ _)
set_option maxRecDepth 100000 in
set_option maxHeartbeats 400000 in
theorem tryFault_u8 (b : Nat) (S : ByteArray) (pos : Nat) (er : Int) (f : Value) (w : World) (h : RdAt w b S pos er) (her : (er != 0) = true) :
    Calls Try.prog 88 #[.pointer (some ⟨b, 0, none⟩), f] w fun e w' => e = .returned (.tuple #[.int .u8 0, .int .i64 er]) ∧ RdAt w' b S pos er ∧ Chg (fun _ => False) w w' := by
  obtain ⟨W, hW, hWs, k0, kr, kv, ke, hC⟩ := world3_u8 h
  have c2 : W.cell? ⟨b, 2, none⟩ = some (.int .i64 er) := Blk.cell k0 2
  have cr : W.cell? ⟨w.heap.size, 0, none⟩ = some (.pointer (some ⟨b, 0, none⟩)) := kr.cell 0
  have cv : W.cell? ⟨w.heap.size + 1, 0, none⟩ = some (.int .u8 0) := kv.cell 0
  have fv : W.frozen? ⟨w.heap.size + 1, 0, none⟩ = false := kv.frozen 0
  have ce : W.cell? ⟨w.heap.size + 1 + 1, 0, none⟩ = some (.int .i64 0) := ke.cell 0
  have fe : W.frozen? ⟨w.heap.size + 1 + 1, 0, none⟩ = false := ke.frozen 0
  go_enter_defers Try.func88, Try.ntmps88
  go_upto_region 1 with (fail)
  clear hW
  have HS := Lib.hid hWs
  clear hWs
  go_wp2
  go_region
  have hne : w.heap.size + 1 ≠ w.heap.size + 1 + 1 := by omega
  have n0 : RdAt ((W.setCell ⟨w.heap.size + 1, 0, none⟩ (.int .u8 0)).setCell ⟨w.heap.size + 1 + 1, 0, none⟩ (.int .i64 er)) b S pos er := Blk.far (p := ⟨w.heap.size + 1 + 1, 0, none⟩) (Blk.far (p := ⟨w.heap.size + 1, 0, none⟩) k0 (Blk.ne_ k0 kv (by decide)) (.int .u8 0)) (Blk.ne_ k0 ke (by decide)) (.int .i64 er)
  have nv : Blk ((W.setCell ⟨w.heap.size + 1, 0, none⟩ (.int .u8 0)).setCell ⟨w.heap.size + 1 + 1, 0, none⟩ (.int .i64 er)) (w.heap.size + 1) 5 #[.int .u8 0] := Blk.far (p := ⟨w.heap.size + 1 + 1, 0, none⟩) (Blk.set_ kv 0 (.int .u8 0)) hne (.int .i64 er)
  have ne5 : Blk ((W.setCell ⟨w.heap.size + 1, 0, none⟩ (.int .u8 0)).setCell ⟨w.heap.size + 1 + 1, 0, none⟩ (.int .i64 er)) (w.heap.size + 1 + 1) 38 #[.int .i64 er] := Blk.set_ (Blk.far (p := ⟨w.heap.size + 1, 0, none⟩) ke (fun e => hne e.symm) (.int .u8 0)) 0 (.int .i64 er)
  have hC3 : Chg (fun _ => False) w ((W.setCell ⟨w.heap.size + 1, 0, none⟩ (.int .u8 0)).setCell ⟨w.heap.size + 1 + 1, 0, none⟩ (.int .i64 er)) :=
    ⟨Nat.le_trans hC.1 (by simp), fun i hi hf => ((heap_set _ _ _ _ (by have : i < w.heap.size := hi; intro e; have e' : i = w.heap.size + 1 + 1 := e; omega)).trans (heap_set _ _ _ _ (by have : i < w.heap.size := hi; intro e; have e' : i = w.heap.size + 1 := e; omega))).trans (hC.2 i hi hf), hC.3⟩
  generalize (W.setCell ⟨w.heap.size + 1, 0, none⟩ (.int .u8 0)).setCell ⟨w.heap.size + 1 + 1, 0, none⟩ (.int .i64 er) = W2 at *
  clear c2 cr cv fv ce fe
  have cv : W2.cell? ⟨w.heap.size + 1, 0, none⟩ = some (.int .u8 0) := nv.cell 0
  have ce : W2.cell? ⟨w.heap.size + 1 + 1, 0, none⟩ = some (.int .i64 er) := ne5.cell 0
  go_wp2
  refine ⟨.tuple #[.int .u8 0, .int .i64 er], ?_, rfl, n0, ⟨hC3.1, hC3.2, hC3.3⟩⟩
  simp [results, Try.results88, go_sem, cv, ce]

set_option maxRecDepth 100000 in
set_option maxHeartbeats 400000 in
theorem tryOk_u8 (b : Nat) (S : ByteArray) (pos pos' : Nat) (g : FuncId) (cap : Array Value) (x : Int) (w : World) (h : RdAt w b S pos 0) (hcf : ∀ (args : Array Value) (W : World), (callFunc g args).run Try.prog W = .ok (.enter g args) W)
    (hone : ∀ W, RdAt W b S pos 0 → Chg (fun _ => False) w W → Calls Try.prog g (#[.pointer (some ⟨b, 0, none⟩)] ++ cap) W fun e W' => e = .returned (.int .u8 x) ∧ RdAt W' b S pos' 0 ∧ Chg (fun k => k = b) W W') :
    Calls Try.prog 88 #[.pointer (some ⟨b, 0, none⟩), .func (.func g) #[] cap] w fun e w' => e = .returned (.tuple #[.int .u8 x, .int .i64 0]) ∧ RdAt w' b S pos' 0 ∧ Chg (fun k => k = b) w w' := by
  obtain ⟨W, hW, hWs, k0, kr, kv, ke, hC⟩ := world3_u8 h
  have c2 : W.cell? ⟨b, 2, none⟩ = some (.int .i64 0) := Blk.cell k0 2
  have c0 : W.cell? ⟨b, 0, none⟩ = some (.int .i64 (pos : Int)) := Blk.cell k0 0
  have cr : W.cell? ⟨w.heap.size, 0, none⟩ = some (.pointer (some ⟨b, 0, none⟩)) := kr.cell 0
  have hmf : ∀ (fn : Fn) (first cap : Array Value) (w : World), (Instr.makeFunc fn first cap).run Try.prog w = .ok (.func fn first cap) w := fun _ _ _ _ => rfl
  have HO := Lib.hid hone
  clear hone
  have hC5 := Chg.alloc (fun _ => False) W (.cells #[.int .i64 (pos : Int)] 3)
  have h6 : Blk (W.alloc (.cells #[.int .i64 (pos : Int)] 3)) W.heap.size 3 #[.int .i64 (pos : Int)] := heap_new _ _
  obtain ⟨W5, hW5⟩ : ∃ W5, W.alloc (.cells #[.int .i64 (pos : Int)] 3) = W5 := ⟨_, rfl⟩
  rw [hW5] at hC5 h6
  have j0 := k0.chg hC5 (fun h => h)
  have jr : Blk W5 w.heap.size 36 #[.pointer (some ⟨b, 0, none⟩)] := (hC5.2 _ kr.lt (fun h => h)).trans kr
  have jv : Blk W5 (w.heap.size + 1) 5 #[.int .u8 0] := (hC5.2 _ kv.lt (fun h => h)).trans kv
  have je : Blk W5 (w.heap.size + 1 + 1) 38 #[.int .i64 0] := (hC5.2 _ ke.lt (fun h => h)).trans ke
  have c5r : W5.cell? ⟨w.heap.size, 0, none⟩ = some (.pointer (some ⟨b, 0, none⟩)) := jr.cell 0
  have hCw := hC.trans hC5
  have hWlt : W.heap.size < W5.heap.size := h6.lt
  go_enter_defers Try.func88, Try.ntmps88
  go_upto_region 1 with (fail)
  clear hW
  have HS := Lib.hid hWs
  clear hWs
  go_wp2_with fail
  clear c2 c0 cr hmf c5r hW5
  refine (HO.out W5 j0 hCw).mono ?_
  rintro e w2 ⟨rfl, hR2, hC2⟩
  have hb5 : b ≠ w.heap.size + 1 + 1 := Blk.ne_ j0 je (by decide)
  have hb4 : b ≠ w.heap.size + 1 := Blk.ne_ j0 jv (by decide)
  have lv : Blk w2 (w.heap.size + 1) 5 #[.int .u8 0] := (hC2.2 _ jv.lt (fun e => hb4 e.symm)).trans jv
  have le : Blk w2 (w.heap.size + 1 + 1) 38 #[.int .i64 0] := (hC2.2 _ je.lt (fun e => hb5 e.symm)).trans je
  have cv : w2.cell? ⟨w.heap.size + 1, 0, none⟩ = some (.int .u8 0) := lv.cell 0
  have fv : w2.frozen? ⟨w.heap.size + 1, 0, none⟩ = false := lv.frozen 0
  have ce : w2.cell? ⟨w.heap.size + 1 + 1, 0, none⟩ = some (.int .i64 0) := le.cell 0
  have fe : w2.frozen? ⟨w.heap.size + 1 + 1, 0, none⟩ = false := le.frozen 0
  clear hcf
  have hne : w.heap.size + 1 ≠ w.heap.size + 1 + 1 := by omega
  have n0 : RdAt ((w2.setCell ⟨w.heap.size + 1, 0, none⟩ (.int .u8 x)).setCell ⟨w.heap.size + 1 + 1, 0, none⟩ (.int .i64 0)) b S pos' 0 := Blk.far (p := ⟨w.heap.size + 1 + 1, 0, none⟩) (Blk.far (p := ⟨w.heap.size + 1, 0, none⟩) hR2 hb4 (.int .u8 x)) hb5 (.int .i64 0)
  have nv : Blk ((w2.setCell ⟨w.heap.size + 1, 0, none⟩ (.int .u8 x)).setCell ⟨w.heap.size + 1 + 1, 0, none⟩ (.int .i64 0)) (w.heap.size + 1) 5 #[.int .u8 x] := Blk.far (p := ⟨w.heap.size + 1 + 1, 0, none⟩) (Blk.set_ lv 0 (.int .u8 x)) hne (.int .i64 0)
  have ne5 : Blk ((w2.setCell ⟨w.heap.size + 1, 0, none⟩ (.int .u8 x)).setCell ⟨w.heap.size + 1 + 1, 0, none⟩ (.int .i64 0)) (w.heap.size + 1 + 1) 38 #[.int .i64 0] := Blk.set_ (Blk.far (p := ⟨w.heap.size + 1, 0, none⟩) le (fun e => hne e.symm) (.int .u8 x)) 0 (.int .i64 0)
  have hC4 : Chg (fun k => k = b) w ((w2.setCell ⟨w.heap.size + 1, 0, none⟩ (.int .u8 x)).setCell ⟨w.heap.size + 1 + 1, 0, none⟩ (.int .i64 0)) :=
    ⟨Nat.le_trans hCw.1 (Nat.le_trans hC2.1 (by simp)), fun i hi hf => ((heap_set _ _ _ _ (by have : i < w.heap.size := hi; intro e; have e' : i = w.heap.size + 1 + 1 := e; omega)).trans (heap_set _ _ _ _ (by have : i < w.heap.size := hi; intro e; have e' : i = w.heap.size + 1 := e; omega))).trans ((hC2.2 i (Nat.lt_of_lt_of_le hi hCw.1) hf).trans (hCw.2 i hi (fun h => h))), env_trans hCw.3 hC2.3⟩
  obtain ⟨W9, hW9⟩ : ∃ W9, (w2.setCell ⟨w.heap.size + 1, 0, none⟩ (.int .u8 x)).setCell ⟨w.heap.size + 1 + 1, 0, none⟩ (.int .i64 0) = W9 := ⟨_, rfl⟩
  rw [hW9] at n0 nv ne5 hC4
  go_wp2
  clear cv fv ce fe hW9
  have cv : W9.cell? ⟨w.heap.size + 1, 0, none⟩ = some (.int .u8 x) := nv.cell 0
  have ce : W9.cell? ⟨w.heap.size + 1 + 1, 0, none⟩ = some (.int .i64 0) := ne5.cell 0
  refine leaves_cons (f := 119) (args := #[.pointer (some ⟨W.heap.size, 0, none⟩), .pointer (some ⟨w.heap.size, 0, none⟩), .pointer (some ⟨w.heap.size + 1, 0, none⟩), .pointer (some ⟨w.heap.size + 1 + 1, 0, none⟩)]) (by simp) (by simp [go_sem]) ?_
  refine (idle_u8 _ _ _ _ _).mono ?_
  rintro e u' w'' ⟨rfl, rfl, rfl⟩
  refine ⟨.tuple #[.int .u8 x, .int .i64 0], ?_, rfl, n0, hC4⟩
  simp [results, Try.results88, go_sem, cv, ce]

set_option maxRecDepth 100000 in
set_option maxHeartbeats 400000 in
theorem tryBad_u8 (b : Nat) (S : ByteArray) (pos : Nat) (er : Int) (g : FuncId) (cap : Array Value) (w : World) (h : RdAt w b S pos 0) (hcf : ∀ (args : Array Value) (W : World), (callFunc g args).run Try.prog W = .ok (.enter g args) W)
    (hone : ∀ W, RdAt W b S pos 0 → Chg (fun _ => False) w W → Calls Try.prog g (#[.pointer (some ⟨b, 0, none⟩)] ++ cap) W fun e W' => e = .panicked [fault er] ∧ (∃ p2, RdAt W' b S p2 0) ∧ Chg (fun k => k = b) W W') :
    Calls Try.prog 88 #[.pointer (some ⟨b, 0, none⟩), .func (.func g) #[] cap] w fun e w' => e = .returned (.tuple #[.int .u8 0, .int .i64 er]) ∧ RdAt w' b S pos er ∧ Chg (fun k => k = b) w w' := by
  obtain ⟨W, hW, hWs, k0, kr, kv, ke, hC⟩ := world3_u8 h
  have c2 : W.cell? ⟨b, 2, none⟩ = some (.int .i64 0) := Blk.cell k0 2
  have c0 : W.cell? ⟨b, 0, none⟩ = some (.int .i64 (pos : Int)) := Blk.cell k0 0
  have cr : W.cell? ⟨w.heap.size, 0, none⟩ = some (.pointer (some ⟨b, 0, none⟩)) := kr.cell 0
  have hmf : ∀ (fn : Fn) (first cap : Array Value) (w : World), (Instr.makeFunc fn first cap).run Try.prog w = .ok (.func fn first cap) w := fun _ _ _ _ => rfl
  have HO := Lib.hid hone
  clear hone
  have hC5 := Chg.alloc (fun _ => False) W (.cells #[.int .i64 (pos : Int)] 3)
  have h6 : Blk (W.alloc (.cells #[.int .i64 (pos : Int)] 3)) W.heap.size 3 #[.int .i64 (pos : Int)] := heap_new _ _
  obtain ⟨W5, hW5⟩ : ∃ W5, W.alloc (.cells #[.int .i64 (pos : Int)] 3) = W5 := ⟨_, rfl⟩
  rw [hW5] at hC5 h6
  have j0 := k0.chg hC5 (fun h => h)
  have jr : Blk W5 w.heap.size 36 #[.pointer (some ⟨b, 0, none⟩)] := (hC5.2 _ kr.lt (fun h => h)).trans kr
  have jv : Blk W5 (w.heap.size + 1) 5 #[.int .u8 0] := (hC5.2 _ kv.lt (fun h => h)).trans kv
  have je : Blk W5 (w.heap.size + 1 + 1) 38 #[.int .i64 0] := (hC5.2 _ ke.lt (fun h => h)).trans ke
  have c5r : W5.cell? ⟨w.heap.size, 0, none⟩ = some (.pointer (some ⟨b, 0, none⟩)) := jr.cell 0
  have hCw := hC.trans hC5
  have hWlt : W.heap.size < W5.heap.size := h6.lt
  go_enter_defers Try.func88, Try.ntmps88
  go_upto_region 1 with (fail)
  clear hW
  have HS := Lib.hid hWs
  clear hWs
  go_wp2_with fail
  clear c2 c0 cr hmf c5r hW5
  refine (HO.out W5 j0 hCw).mono ?_
  rintro e w2 ⟨rfl, ⟨p2, hR2⟩, hC2⟩
  have hb5 : b ≠ w.heap.size + 1 + 1 := Blk.ne_ j0 je (by decide)
  have hb4 : b ≠ w.heap.size + 1 := Blk.ne_ j0 jv (by decide)
  have lv : Blk w2 (w.heap.size + 1) 5 #[.int .u8 0] := (hC2.2 _ jv.lt (fun e => hb4 e.symm)).trans jv
  have le : Blk w2 (w.heap.size + 1 + 1) 38 #[.int .i64 0] := (hC2.2 _ je.lt (fun e => hb5 e.symm)).trans je
  have l6 : Blk w2 W.heap.size 3 #[.int .i64 (pos : Int)] := (hC2.2 _ h6.lt (fun e => Blk.ne_ j0 h6 (by decide) e.symm)).trans h6
  have lr : Blk w2 w.heap.size 36 #[.pointer (some ⟨b, 0, none⟩)] := (hC2.2 _ jr.lt (fun e => Blk.ne_ j0 jr (by decide) e.symm)).trans jr
  refine leaves_cons (f := 119) (args := #[.pointer (some ⟨W.heap.size, 0, none⟩), .pointer (some ⟨w.heap.size, 0, none⟩), .pointer (some ⟨w.heap.size + 1, 0, none⟩), .pointer (some ⟨w.heap.size + 1 + 1, 0, none⟩)]) (by simp) (by simp [go_sem]) ?_
  refine (caught_u8 b S p2 pos er 0 _ _ _ _ _ w2 hR2 l6 lr lv le).mono ?_
  rintro e u' w9 ⟨rfl, rfl, n0, nv, ne5, hC9⟩
  have cv : w9.cell? ⟨w.heap.size + 1, 0, none⟩ = some (.int .u8 0) := nv.cell 0
  have ce : w9.cell? ⟨w.heap.size + 1 + 1, 0, none⟩ = some (.int .i64 er) := ne5.cell 0
  refine ⟨.tuple #[.int .u8 0, .int .i64 er], ?_, rfl, n0, ⟨Nat.le_trans hCw.1 (Nat.le_trans hC2.1 hC9.1), fun i hi hf => ?_, env_trans (env_trans hCw.3 hC2.3) hC9.3⟩⟩
  · simp [results, Try.results88, go_sem, cv, ce]
  · have hlt : i < w.heap.size := hi
    refine (hC9.2 i (Nat.lt_of_lt_of_le (Nat.lt_of_lt_of_le hi hCw.1) hC2.1) ?_).trans ((hC2.2 i (Nat.lt_of_lt_of_le hi hCw.1) hf).trans (hCw.2 i hi (fun h => h)))
    rintro (e | e | e)
    · exact hf e
    · omega
    · omega
end Go.Proofs.Ytclnpedmoelipaa.Rd
