/- The comparisons of graphs say yes of what is the same. -/
import Derived.Test.YtocdebfbpfmnnaaXSame
import Derived.Test.YtocdebfbpfmnnaaXCopy
import Derived.Test.YtocdebfbpfmnnaaPrS
import Derived.StillTailTactics
namespace Go.Proofs.Ytocdebfbpfmnnaa.Pr
open Go.RowKit Go.Proofs.YtocdebfbpfmnnaaW.PrintWords Go.Proofs.YtocdebfbpfmnnaaW.PrintLast Go.Proofs.YtocdebfbpfmnnaaW.PrintMore
attribute [local go_sem high] eqA85 eqA79
set_option linter.unusedVariables false
set_option linter.unusedSimpArgs false
theorem drawn_below {b : Nat} {w0 w w' : World} (h : Below b w0 w) (hd : Drawn0 w w') : Below b w0 w' := by obtain ⟨n, rfl⟩ := hd; exact pw_below_drewN h n
theorem drawn_blk {g : Nat} {o : Obj} {w w' : World} (h : w.heap[g]? = some o) (hd : Drawn0 w w') : w'.heap[g]? = some o := by obtain ⟨n, rfl⟩ := hd; exact blk_drewN h n
set_option maxHeartbeats 2000000 in
set_option maxRecDepth 100000 in
theorem sameIns.told (x : S90) (A6 : Option Addr) (c6 : Nat) (B6 : Option Addr) (d6 : Nat) (A7 : Option Addr) (c7 : Nat) (B7 : Option Addr) (d7 : Nat) (w : World) (hA6 : Kd.C (Kd.int .i64) w A6 (x.f6).length (x.f6)) (hc6 : (x.f6).length ≤ c6) (hB6 : Kd.C (Kd.int .i64) w B6 (x.f6).length (x.f6)) (hd6 : (x.f6).length ≤ d6) (hA7 : Kd.C (Kd.int .i64) w A7 (x.f7).length (x.f7)) (hc7 : (x.f7).length ≤ c7) (hB7 : Kd.C (Kd.int .i64) w B7 (x.f7).length (x.f7)) (hd7 : (x.f7).length ≤ d7) (hs6 : x.f6.length ≤ 140737488355328) (hs7 : x.f7.length ≤ 140737488355328) :
    Calls Try.prog 68 #[.agg #[.int .i64 (x.f0), .int .i64 (x.f1), .int .i64 (x.f2), .int .i64 (x.f3), .int .i64 (x.f4), .int .u32 (x.f5), .slice A6 (x.f6).length c6, .slice A7 (x.f7).length c7], .agg #[.int .i64 (x.f0), .int .i64 (x.f1), .int .i64 (x.f2), .int .i64 (x.f3), .int .i64 (x.f4), .int .u32 (x.f5), .slice B6 (x.f6).length d6, .slice B7 (x.f7).length d7]] w fun e w' => e = .returned (.bool true) ∧ Below w.heap.size w w' := by
  have HA6 := Aside0.mk hA6
  have HC6 := Aside0.mk hc6
  have HB6 := Aside0.mk hB6
  have HD6 := Aside0.mk hd6
  clear hA6 hc6 hB6 hd6
  have HA7 := Aside0.mk hA7
  have HC7 := Aside0.mk hc7
  have HB7 := Aside0.mk hB7
  have HD7 := Aside0.mk hd7
  clear hA7 hc7 hB7 hd7
  obtain ⟨k6, hk6⟩ := (sameInts_self x.f6 hs6).rounds
  obtain ⟨k7, hk7⟩ := (sameInts_self x.f7 hs7).rounds
  have HK6 := Aside0.mk hk6
  have HK7 := Aside0.mk hk7
  clear hk6 hk7 hs6 hs7
  go_enter Try.func68, Try.ntmps68
  go_upto_region 1 with (fail)
  have BK1 := Aside0.mk (heap_alloc2_old w (.cells #[.int .i64 (x.f0), .int .i64 (x.f1), .int .i64 (x.f2), .int .i64 (x.f3), .int .i64 (x.f4), .int .u32 (x.f5), .slice A6 (x.f6).length c6, .slice A7 (x.f7).length c7] 90) (.cells #[.int .i64 (x.f0), .int .i64 (x.f1), .int .i64 (x.f2), .int .i64 (x.f3), .int .i64 (x.f4), .int .u32 (x.f5), .slice B6 (x.f6).length d6, .slice B7 (x.f7).length d7] 90))
  have BK2 := Aside0.mk (heap_alloc2_new w (.cells #[.int .i64 (x.f0), .int .i64 (x.f1), .int .i64 (x.f2), .int .i64 (x.f3), .int .i64 (x.f4), .int .u32 (x.f5), .slice A6 (x.f6).length c6, .slice A7 (x.f7).length c7] 90) (.cells #[.int .i64 (x.f0), .int .i64 (x.f1), .int .i64 (x.f2), .int .i64 (x.f3), .int .i64 (x.f4), .int .u32 (x.f5), .slice B6 (x.f6).length d6, .slice B7 (x.f7).length d7] 90))
  have HB := Aside0.mk (below_alloc (below_alloc (Below.refl w.heap.size w) (.cells #[.int .i64 (x.f0), .int .i64 (x.f1), .int .i64 (x.f2), .int .i64 (x.f3), .int .i64 (x.f4), .int .u32 (x.f5), .slice A6 (x.f6).length c6, .slice A7 (x.f7).length c7] 90)) (.cells #[.int .i64 (x.f0), .int .i64 (x.f1), .int .i64 (x.f2), .int .i64 (x.f3), .int .i64 (x.f4), .int .u32 (x.f5), .slice B6 (x.f6).length d6, .slice B7 (x.f7).length d7] 90))
  generalize (w.alloc (.cells #[.int .i64 (x.f0), .int .i64 (x.f1), .int .i64 (x.f2), .int .i64 (x.f3), .int .i64 (x.f4), .int .u32 (x.f5), .slice A6 (x.f6).length c6, .slice A7 (x.f7).length c7] 90)).alloc (.cells #[.int .i64 (x.f0), .int .i64 (x.f1), .int .i64 (x.f2), .int .i64 (x.f3), .int .i64 (x.f4), .int .u32 (x.f5), .slice B6 (x.f6).length d6, .slice B7 (x.f7).length d7] 90) = W0 at BK1 BK2 HB ⊢
  have p0 : W0.cell? ⟨w.heap.size, 0, none⟩ = some (.int .i64 (x.f0)) := (blk_cell BK1.out 0).trans rfl
  have q0 : W0.cell? ⟨w.heap.size + 1, 0, none⟩ = some (.int .i64 (x.f0)) := (blk_cell BK2.out 0).trans rfl
  have p1 : W0.cell? ⟨w.heap.size, 1, none⟩ = some (.int .i64 (x.f1)) := (blk_cell BK1.out 1).trans rfl
  have q1 : W0.cell? ⟨w.heap.size + 1, 1, none⟩ = some (.int .i64 (x.f1)) := (blk_cell BK2.out 1).trans rfl
  have p2 : W0.cell? ⟨w.heap.size, 2, none⟩ = some (.int .i64 (x.f2)) := (blk_cell BK1.out 2).trans rfl
  have q2 : W0.cell? ⟨w.heap.size + 1, 2, none⟩ = some (.int .i64 (x.f2)) := (blk_cell BK2.out 2).trans rfl
  have p3 : W0.cell? ⟨w.heap.size, 3, none⟩ = some (.int .i64 (x.f3)) := (blk_cell BK1.out 3).trans rfl
  have q3 : W0.cell? ⟨w.heap.size + 1, 3, none⟩ = some (.int .i64 (x.f3)) := (blk_cell BK2.out 3).trans rfl
  have p4 : W0.cell? ⟨w.heap.size, 4, none⟩ = some (.int .i64 (x.f4)) := (blk_cell BK1.out 4).trans rfl
  have q4 : W0.cell? ⟨w.heap.size + 1, 4, none⟩ = some (.int .i64 (x.f4)) := (blk_cell BK2.out 4).trans rfl
  have p5 : W0.cell? ⟨w.heap.size, 5, none⟩ = some (.int .u32 (x.f5)) := (blk_cell BK1.out 5).trans rfl
  have q5 : W0.cell? ⟨w.heap.size + 1, 5, none⟩ = some (.int .u32 (x.f5)) := (blk_cell BK2.out 5).trans rfl
  have p6 : W0.cell? ⟨w.heap.size, 6, none⟩ = some (.slice A6 (x.f6).length c6) := (blk_cell BK1.out 6).trans rfl
  have q6 : W0.cell? ⟨w.heap.size + 1, 6, none⟩ = some (.slice B6 (x.f6).length d6) := (blk_cell BK2.out 6).trans rfl
  have p7 : W0.cell? ⟨w.heap.size, 7, none⟩ = some (.slice A7 (x.f7).length c7) := (blk_cell BK1.out 7).trans rfl
  have q7 : W0.cell? ⟨w.heap.size + 1, 7, none⟩ = some (.slice B7 (x.f7).length d7) := (blk_cell BK2.out 7).trans rfl
  go_wp2_with (first
    | (go_at_call 39; (with_reducible refine (switchbacklaw10_SameInts.calls k6 _ _ x.f6 _ _ x.f6 true _ (Kd.C_below HA6.out HB.out) HC6.out (Kd.C_below HB6.out HB.out) HD6.out HK6.out).mono ?_); rintro e W1 ⟨rfl, hdr⟩; have HB1 := Aside0.mk (drawn_below HB.out hdr); have BK3 := Aside0.mk (drawn_blk BK1.out hdr); have BK4 := Aside0.mk (drawn_blk BK2.out hdr); clear hdr p0 q0 p1 q1 p2 q2 p3 q3 p4 q4 p5 q5 p6 q6 p7 q7; have p0 : W1.cell? ⟨w.heap.size, 0, none⟩ = some (.int .i64 (x.f0)) := (blk_cell BK3.out 0).trans rfl; have q0 : W1.cell? ⟨w.heap.size + 1, 0, none⟩ = some (.int .i64 (x.f0)) := (blk_cell BK4.out 0).trans rfl; have p1 : W1.cell? ⟨w.heap.size, 1, none⟩ = some (.int .i64 (x.f1)) := (blk_cell BK3.out 1).trans rfl; have q1 : W1.cell? ⟨w.heap.size + 1, 1, none⟩ = some (.int .i64 (x.f1)) := (blk_cell BK4.out 1).trans rfl; have p2 : W1.cell? ⟨w.heap.size, 2, none⟩ = some (.int .i64 (x.f2)) := (blk_cell BK3.out 2).trans rfl; have q2 : W1.cell? ⟨w.heap.size + 1, 2, none⟩ = some (.int .i64 (x.f2)) := (blk_cell BK4.out 2).trans rfl; have p3 : W1.cell? ⟨w.heap.size, 3, none⟩ = some (.int .i64 (x.f3)) := (blk_cell BK3.out 3).trans rfl; have q3 : W1.cell? ⟨w.heap.size + 1, 3, none⟩ = some (.int .i64 (x.f3)) := (blk_cell BK4.out 3).trans rfl; have p4 : W1.cell? ⟨w.heap.size, 4, none⟩ = some (.int .i64 (x.f4)) := (blk_cell BK3.out 4).trans rfl; have q4 : W1.cell? ⟨w.heap.size + 1, 4, none⟩ = some (.int .i64 (x.f4)) := (blk_cell BK4.out 4).trans rfl; have p5 : W1.cell? ⟨w.heap.size, 5, none⟩ = some (.int .u32 (x.f5)) := (blk_cell BK3.out 5).trans rfl; have q5 : W1.cell? ⟨w.heap.size + 1, 5, none⟩ = some (.int .u32 (x.f5)) := (blk_cell BK4.out 5).trans rfl; have p6 : W1.cell? ⟨w.heap.size, 6, none⟩ = some (.slice A6 (x.f6).length c6) := (blk_cell BK3.out 6).trans rfl; have q6 : W1.cell? ⟨w.heap.size + 1, 6, none⟩ = some (.slice B6 (x.f6).length d6) := (blk_cell BK4.out 6).trans rfl; have p7 : W1.cell? ⟨w.heap.size, 7, none⟩ = some (.slice A7 (x.f7).length c7) := (blk_cell BK3.out 7).trans rfl; have q7 : W1.cell? ⟨w.heap.size + 1, 7, none⟩ = some (.slice B7 (x.f7).length d7) := (blk_cell BK4.out 7).trans rfl)
    | (go_at_call 39; (with_reducible refine (switchbacklaw10_SameInts.calls k7 _ _ x.f7 _ _ x.f7 true _ (Kd.C_below HA7.out HB1.out) HC7.out (Kd.C_below HB7.out HB1.out) HD7.out HK7.out).mono ?_); rintro e W2 ⟨rfl, hdr⟩; have HB2 := Aside0.mk (drawn_below HB1.out hdr); clear hdr)
    | fail)
  go_ret
  exact ⟨rfl, HB2.out⟩
set_option maxHeartbeats 4000000 in
set_option maxRecDepth 100000 in
theorem sameEnd.told (x : S74) (A7 : Option Addr) (c7 : Nat) (B7 : Option Addr) (d7 : Nat) (A8 : Option Addr) (c8 : Nat) (B8 : Option Addr) (d8 : Nat) (w : World) (hA7 : k85.C w A7 (x.f7).length (x.f7)) (hc7 : (x.f7).length ≤ c7) (hB7 : k85.C w B7 (x.f7).length (x.f7)) (hd7 : (x.f7).length ≤ d7) (hA8 : Kd.C (Kd.int .i64) w A8 (x.f8).length (x.f8)) (hc8 : (x.f8).length ≤ c8) (hB8 : Kd.C (Kd.int .i64) w B8 (x.f8).length (x.f8)) (hd8 : (x.f8).length ≤ d8) (hs7 : x.f7.length ≤ 140737488355328) (hs8 : x.f8.length ≤ 140737488355328) :
    Calls Try.prog 67 #[.agg #[.int .i64 (x.f0), .int .i64 (x.f1), .int .i64 (x.f2), .int .i64 (x.f3), .int .u32 (x.f4), .int .i64 (x.f5), .int .i64 (x.f6), .slice A7 (x.f7).length c7, .slice A8 (x.f8).length c8], .agg #[.int .i64 (x.f0), .int .i64 (x.f1), .int .i64 (x.f2), .int .i64 (x.f3), .int .u32 (x.f4), .int .i64 (x.f5), .int .i64 (x.f6), .slice B7 (x.f7).length d7, .slice B8 (x.f8).length d8]] w fun e w' => e = .returned (.bool true) ∧ Below w.heap.size w w' := by
  have HA7 := Aside0.mk hA7
  have HC7 := Aside0.mk hc7
  have HB7 := Aside0.mk hB7
  have HD7 := Aside0.mk hd7
  clear hA7 hc7 hB7 hd7
  have HA8 := Aside0.mk hA8
  have HC8 := Aside0.mk hc8
  have HB8 := Aside0.mk hB8
  have HD8 := Aside0.mk hd8
  clear hA8 hc8 hB8 hd8
  obtain ⟨k8, hk8⟩ := (sameInts_self x.f8 hs8).rounds
  have HK8 := Aside0.mk hk8
  have HS7 := Aside0.mk hs7
  clear hk8 hs7 hs8
  go_enter Try.func67, Try.ntmps67
  go_upto_region 1 with (fail)
  have BK1 := Aside0.mk (heap_alloc2_old w (.cells #[.int .i64 (x.f0), .int .i64 (x.f1), .int .i64 (x.f2), .int .i64 (x.f3), .int .u32 (x.f4), .int .i64 (x.f5), .int .i64 (x.f6), .slice A7 (x.f7).length c7, .slice A8 (x.f8).length c8] 74) (.cells #[.int .i64 (x.f0), .int .i64 (x.f1), .int .i64 (x.f2), .int .i64 (x.f3), .int .u32 (x.f4), .int .i64 (x.f5), .int .i64 (x.f6), .slice B7 (x.f7).length d7, .slice B8 (x.f8).length d8] 74))
  have BK2 := Aside0.mk (heap_alloc2_new w (.cells #[.int .i64 (x.f0), .int .i64 (x.f1), .int .i64 (x.f2), .int .i64 (x.f3), .int .u32 (x.f4), .int .i64 (x.f5), .int .i64 (x.f6), .slice A7 (x.f7).length c7, .slice A8 (x.f8).length c8] 74) (.cells #[.int .i64 (x.f0), .int .i64 (x.f1), .int .i64 (x.f2), .int .i64 (x.f3), .int .u32 (x.f4), .int .i64 (x.f5), .int .i64 (x.f6), .slice B7 (x.f7).length d7, .slice B8 (x.f8).length d8] 74))
  have HB := Aside0.mk (below_alloc (below_alloc (Below.refl w.heap.size w) (.cells #[.int .i64 (x.f0), .int .i64 (x.f1), .int .i64 (x.f2), .int .i64 (x.f3), .int .u32 (x.f4), .int .i64 (x.f5), .int .i64 (x.f6), .slice A7 (x.f7).length c7, .slice A8 (x.f8).length c8] 74)) (.cells #[.int .i64 (x.f0), .int .i64 (x.f1), .int .i64 (x.f2), .int .i64 (x.f3), .int .u32 (x.f4), .int .i64 (x.f5), .int .i64 (x.f6), .slice B7 (x.f7).length d7, .slice B8 (x.f8).length d8] 74))
  generalize (w.alloc (.cells #[.int .i64 (x.f0), .int .i64 (x.f1), .int .i64 (x.f2), .int .i64 (x.f3), .int .u32 (x.f4), .int .i64 (x.f5), .int .i64 (x.f6), .slice A7 (x.f7).length c7, .slice A8 (x.f8).length c8] 74)).alloc (.cells #[.int .i64 (x.f0), .int .i64 (x.f1), .int .i64 (x.f2), .int .i64 (x.f3), .int .u32 (x.f4), .int .i64 (x.f5), .int .i64 (x.f6), .slice B7 (x.f7).length d7, .slice B8 (x.f8).length d8] 74) = W0 at BK1 BK2 HB ⊢
  have p0 : W0.cell? ⟨w.heap.size, 0, none⟩ = some (.int .i64 (x.f0)) := (blk_cell BK1.out 0).trans rfl
  have q0 : W0.cell? ⟨w.heap.size + 1, 0, none⟩ = some (.int .i64 (x.f0)) := (blk_cell BK2.out 0).trans rfl
  have p1 : W0.cell? ⟨w.heap.size, 1, none⟩ = some (.int .i64 (x.f1)) := (blk_cell BK1.out 1).trans rfl
  have q1 : W0.cell? ⟨w.heap.size + 1, 1, none⟩ = some (.int .i64 (x.f1)) := (blk_cell BK2.out 1).trans rfl
  have p2 : W0.cell? ⟨w.heap.size, 2, none⟩ = some (.int .i64 (x.f2)) := (blk_cell BK1.out 2).trans rfl
  have q2 : W0.cell? ⟨w.heap.size + 1, 2, none⟩ = some (.int .i64 (x.f2)) := (blk_cell BK2.out 2).trans rfl
  have p3 : W0.cell? ⟨w.heap.size, 3, none⟩ = some (.int .i64 (x.f3)) := (blk_cell BK1.out 3).trans rfl
  have q3 : W0.cell? ⟨w.heap.size + 1, 3, none⟩ = some (.int .i64 (x.f3)) := (blk_cell BK2.out 3).trans rfl
  have p4 : W0.cell? ⟨w.heap.size, 4, none⟩ = some (.int .u32 (x.f4)) := (blk_cell BK1.out 4).trans rfl
  have q4 : W0.cell? ⟨w.heap.size + 1, 4, none⟩ = some (.int .u32 (x.f4)) := (blk_cell BK2.out 4).trans rfl
  have p5 : W0.cell? ⟨w.heap.size, 5, none⟩ = some (.int .i64 (x.f5)) := (blk_cell BK1.out 5).trans rfl
  have q5 : W0.cell? ⟨w.heap.size + 1, 5, none⟩ = some (.int .i64 (x.f5)) := (blk_cell BK2.out 5).trans rfl
  have p6 : W0.cell? ⟨w.heap.size, 6, none⟩ = some (.int .i64 (x.f6)) := (blk_cell BK1.out 6).trans rfl
  have q6 : W0.cell? ⟨w.heap.size + 1, 6, none⟩ = some (.int .i64 (x.f6)) := (blk_cell BK2.out 6).trans rfl
  have p7 : W0.cell? ⟨w.heap.size, 7, none⟩ = some (.slice A7 (x.f7).length c7) := (blk_cell BK1.out 7).trans rfl
  have q7 : W0.cell? ⟨w.heap.size + 1, 7, none⟩ = some (.slice B7 (x.f7).length d7) := (blk_cell BK2.out 7).trans rfl
  have p8 : W0.cell? ⟨w.heap.size, 8, none⟩ = some (.slice A8 (x.f8).length c8) := (blk_cell BK1.out 8).trans rfl
  have q8 : W0.cell? ⟨w.heap.size + 1, 8, none⟩ = some (.slice B8 (x.f8).length d8) := (blk_cell BK2.out 8).trans rfl
  go_wp2_with (first
    | (go_at_call 39; (with_reducible refine (switchbacklaw10_SameInts.calls k8 _ _ x.f8 _ _ x.f8 true _ (Kd.C_below HA8.out HB.out) HC8.out (Kd.C_below HB8.out HB.out) HD8.out HK8.out).mono ?_); rintro e W1 ⟨rfl, hdr⟩; have HB1 := Aside0.mk (drawn_below HB.out hdr); have BK3 := Aside0.mk (drawn_blk BK1.out hdr); have BK4 := Aside0.mk (drawn_blk BK2.out hdr); clear hdr p0 q0 p1 q1 p2 q2 p3 q3 p4 q4 p5 q5 p6 q6 p7 q7 p8 q8)
    | fail)
  go_loopw [5] (fun v5 wr => ∃ q : Nat, q ≤ x.f7.length ∧ v5 = .int .i64 (q : Int) ∧ Aside0 (wr.heap[w.heap.size]? = some (.cells #[.int .i64 (x.f0), .int .i64 (x.f1), .int .i64 (x.f2), .int .i64 (x.f3), .int .u32 (x.f4), .int .i64 (x.f5), .int .i64 (x.f6), .slice A7 (x.f7).length c7, .slice A8 (x.f8).length c8] 74 (0, 0))) ∧ Aside0 (wr.heap[w.heap.size + 1]? = some (.cells #[.int .i64 (x.f0), .int .i64 (x.f1), .int .i64 (x.f2), .int .i64 (x.f3), .int .u32 (x.f4), .int .i64 (x.f5), .int .i64 (x.f6), .slice B7 (x.f7).length d7, .slice B8 (x.f8).length d8] 74 (0, 0))) ∧ Aside0 (Below w.heap.size w wr)) (fun v5 _ => x.f7.length - (intOf v5).toNat)
  case atStart => exact ⟨0, Nat.zero_le _, rfl, BK3, BK4, HB1⟩
  case round =>
    clear BK1 BK2 BK3 BK4 HB1 HB
    obtain ⟨q, hq, rfl, BK1, BK2, HB⟩ := hrel
    have hq2 : (q : Int) + 1 ≤ 9223372036854775807 := by have := HS7.out; omega
    have p7 : wr.cell? ⟨w.heap.size, 7, none⟩ = some (.slice A7 (x.f7).length c7) := (blk_cell BK1.out 7).trans rfl
    have q7 : wr.cell? ⟨w.heap.size + 1, 7, none⟩ = some (.slice B7 (x.f7).length d7) := (blk_cell BK2.out 7).trans rfl
    by_cases hlt : q < x.f7.length
    · have HQ := Aside0.mk hlt
      have hltb : decide ((q : Int) < (x.f7.length : Int)) = true := decide_eq_true (by omega)
      have hlti : (q : Int) < (x.f7.length : Int) := by omega
      obtain ⟨ad, rfl, y0, y1⟩ := at_T85 (Kd.C_below HA7.out HB.out) (q : Int) (by omega) hlti
      obtain ⟨bd, rfl, z0, z1⟩ := at_T85 (Kd.C_below HB7.out HB.out) (q : Int) (by omega) hlti
      rw [Int.toNat_natCast] at y0 y1 z0 z1
      clear hlt
      go_wp2
      go_quiet (fail)
      go_wp2
      go_roundw
      case measure => have := HQ.out; simp [intOf]; omega
      case rel => exact ⟨q + 1, HQ.out, by go_num, ⟨blk_drewN BK1.out _⟩, ⟨blk_drewN BK2.out _⟩, ⟨pw_below_drewN HB.out _⟩⟩
    · obtain rfl : q = x.f7.length := by omega
      have hltb : decide ((x.f7.length : Int) < (x.f7.length : Int)) = false := decide_eq_false (by omega)
      clear hlt
      go_wp2
      go_ret
      exact ⟨rfl, HB.out⟩
set_option maxHeartbeats 4000000 in
set_option maxRecDepth 100000 in
theorem sameBlock.told (x : S77) (A0 : Option Addr) (c0 : Nat) (B0 : Option Addr) (d0 : Nat) (A7 : Option Addr) (c7 : Nat) (B7 : Option Addr) (d7 : Nat) (A8 : Option Addr) (c8 : Nat) (B8 : Option Addr) (d8 : Nat) (w : World) (hA0 : k90.C w A0 (x.f0).length (x.f0)) (hc0 : (x.f0).length ≤ c0) (hB0 : k90.C w B0 (x.f0).length (x.f0)) (hd0 : (x.f0).length ≤ d0) (hA7 : k85.C w A7 (x.f1.f7).length (x.f1.f7)) (hc7 : (x.f1.f7).length ≤ c7) (hB7 : k85.C w B7 (x.f1.f7).length (x.f1.f7)) (hd7 : (x.f1.f7).length ≤ d7) (hA8 : Kd.C (Kd.int .i64) w A8 (x.f1.f8).length (x.f1.f8)) (hc8 : (x.f1.f8).length ≤ c8) (hB8 : Kd.C (Kd.int .i64) w B8 (x.f1.f8).length (x.f1.f8)) (hd8 : (x.f1.f8).length ≤ d8) (hx : okBlk x) :
    Calls Try.prog 40 #[.agg #[.slice A0 (x.f0).length c0, .int .i64 (x.f1.f0), .int .i64 (x.f1.f1), .int .i64 (x.f1.f2), .int .i64 (x.f1.f3), .int .u32 (x.f1.f4), .int .i64 (x.f1.f5), .int .i64 (x.f1.f6), .slice A7 (x.f1.f7).length c7, .slice A8 (x.f1.f8).length c8], .agg #[.slice B0 (x.f0).length d0, .int .i64 (x.f1.f0), .int .i64 (x.f1.f1), .int .i64 (x.f1.f2), .int .i64 (x.f1.f3), .int .u32 (x.f1.f4), .int .i64 (x.f1.f5), .int .i64 (x.f1.f6), .slice B7 (x.f1.f7).length d7, .slice B8 (x.f1.f8).length d8]] w fun e w' => e = .returned (.bool true) ∧ Below w.heap.size w w' := by
  have HA0 := Aside0.mk hA0
  have HC0 := Aside0.mk hc0
  have HB0 := Aside0.mk hB0
  have HD0 := Aside0.mk hd0
  clear hA0 hc0 hB0 hd0
  have HA7 := Aside0.mk hA7
  have HC7 := Aside0.mk hc7
  have HB7 := Aside0.mk hB7
  have HD7 := Aside0.mk hd7
  clear hA7 hc7 hB7 hd7
  have HA8 := Aside0.mk hA8
  have HC8 := Aside0.mk hc8
  have HB8 := Aside0.mk hB8
  have HD8 := Aside0.mk hd8
  clear hA8 hc8 hB8 hd8
  have HX := Aside0.mk hx
  have HX7 := Aside0.mk (show x.f1.f7.length ≤ 140737488355328 by have := hx.2.2.1; omega)
  have HX8 := Aside0.mk (show x.f1.f8.length ≤ 140737488355328 by have := hx.2.2.2; omega)
  clear hx
  go_enter Try.func40, Try.ntmps40
  go_upto_region 1 with (fail)
  have BK1 := Aside0.mk (heap_alloc2_old w (.cells #[.slice A0 (x.f0).length c0, .int .i64 (x.f1.f0), .int .i64 (x.f1.f1), .int .i64 (x.f1.f2), .int .i64 (x.f1.f3), .int .u32 (x.f1.f4), .int .i64 (x.f1.f5), .int .i64 (x.f1.f6), .slice A7 (x.f1.f7).length c7, .slice A8 (x.f1.f8).length c8] 77) (.cells #[.slice B0 (x.f0).length d0, .int .i64 (x.f1.f0), .int .i64 (x.f1.f1), .int .i64 (x.f1.f2), .int .i64 (x.f1.f3), .int .u32 (x.f1.f4), .int .i64 (x.f1.f5), .int .i64 (x.f1.f6), .slice B7 (x.f1.f7).length d7, .slice B8 (x.f1.f8).length d8] 77))
  have BK2 := Aside0.mk (heap_alloc2_new w (.cells #[.slice A0 (x.f0).length c0, .int .i64 (x.f1.f0), .int .i64 (x.f1.f1), .int .i64 (x.f1.f2), .int .i64 (x.f1.f3), .int .u32 (x.f1.f4), .int .i64 (x.f1.f5), .int .i64 (x.f1.f6), .slice A7 (x.f1.f7).length c7, .slice A8 (x.f1.f8).length c8] 77) (.cells #[.slice B0 (x.f0).length d0, .int .i64 (x.f1.f0), .int .i64 (x.f1.f1), .int .i64 (x.f1.f2), .int .i64 (x.f1.f3), .int .u32 (x.f1.f4), .int .i64 (x.f1.f5), .int .i64 (x.f1.f6), .slice B7 (x.f1.f7).length d7, .slice B8 (x.f1.f8).length d8] 77))
  have HB := Aside0.mk (below_alloc (below_alloc (Below.refl w.heap.size w) (.cells #[.slice A0 (x.f0).length c0, .int .i64 (x.f1.f0), .int .i64 (x.f1.f1), .int .i64 (x.f1.f2), .int .i64 (x.f1.f3), .int .u32 (x.f1.f4), .int .i64 (x.f1.f5), .int .i64 (x.f1.f6), .slice A7 (x.f1.f7).length c7, .slice A8 (x.f1.f8).length c8] 77)) (.cells #[.slice B0 (x.f0).length d0, .int .i64 (x.f1.f0), .int .i64 (x.f1.f1), .int .i64 (x.f1.f2), .int .i64 (x.f1.f3), .int .u32 (x.f1.f4), .int .i64 (x.f1.f5), .int .i64 (x.f1.f6), .slice B7 (x.f1.f7).length d7, .slice B8 (x.f1.f8).length d8] 77))
  generalize (w.alloc (.cells #[.slice A0 (x.f0).length c0, .int .i64 (x.f1.f0), .int .i64 (x.f1.f1), .int .i64 (x.f1.f2), .int .i64 (x.f1.f3), .int .u32 (x.f1.f4), .int .i64 (x.f1.f5), .int .i64 (x.f1.f6), .slice A7 (x.f1.f7).length c7, .slice A8 (x.f1.f8).length c8] 77)).alloc (.cells #[.slice B0 (x.f0).length d0, .int .i64 (x.f1.f0), .int .i64 (x.f1.f1), .int .i64 (x.f1.f2), .int .i64 (x.f1.f3), .int .u32 (x.f1.f4), .int .i64 (x.f1.f5), .int .i64 (x.f1.f6), .slice B7 (x.f1.f7).length d7, .slice B8 (x.f1.f8).length d8] 77) = W0 at BK1 BK2 HB ⊢
  have p0 : W0.cell? ⟨w.heap.size, 0, none⟩ = some (.slice A0 (x.f0).length c0) := (blk_cell BK1.out 0).trans rfl
  have q0 : W0.cell? ⟨w.heap.size + 1, 0, none⟩ = some (.slice B0 (x.f0).length d0) := (blk_cell BK2.out 0).trans rfl
  have p1 : W0.cell? ⟨w.heap.size, 1, none⟩ = some (.int .i64 (x.f1.f0)) := (blk_cell BK1.out 1).trans rfl
  have q1 : W0.cell? ⟨w.heap.size + 1, 1, none⟩ = some (.int .i64 (x.f1.f0)) := (blk_cell BK2.out 1).trans rfl
  have p2 : W0.cell? ⟨w.heap.size, 2, none⟩ = some (.int .i64 (x.f1.f1)) := (blk_cell BK1.out 2).trans rfl
  have q2 : W0.cell? ⟨w.heap.size + 1, 2, none⟩ = some (.int .i64 (x.f1.f1)) := (blk_cell BK2.out 2).trans rfl
  have p3 : W0.cell? ⟨w.heap.size, 3, none⟩ = some (.int .i64 (x.f1.f2)) := (blk_cell BK1.out 3).trans rfl
  have q3 : W0.cell? ⟨w.heap.size + 1, 3, none⟩ = some (.int .i64 (x.f1.f2)) := (blk_cell BK2.out 3).trans rfl
  have p4 : W0.cell? ⟨w.heap.size, 4, none⟩ = some (.int .i64 (x.f1.f3)) := (blk_cell BK1.out 4).trans rfl
  have q4 : W0.cell? ⟨w.heap.size + 1, 4, none⟩ = some (.int .i64 (x.f1.f3)) := (blk_cell BK2.out 4).trans rfl
  have p5 : W0.cell? ⟨w.heap.size, 5, none⟩ = some (.int .u32 (x.f1.f4)) := (blk_cell BK1.out 5).trans rfl
  have q5 : W0.cell? ⟨w.heap.size + 1, 5, none⟩ = some (.int .u32 (x.f1.f4)) := (blk_cell BK2.out 5).trans rfl
  have p6 : W0.cell? ⟨w.heap.size, 6, none⟩ = some (.int .i64 (x.f1.f5)) := (blk_cell BK1.out 6).trans rfl
  have q6 : W0.cell? ⟨w.heap.size + 1, 6, none⟩ = some (.int .i64 (x.f1.f5)) := (blk_cell BK2.out 6).trans rfl
  have p7 : W0.cell? ⟨w.heap.size, 7, none⟩ = some (.int .i64 (x.f1.f6)) := (blk_cell BK1.out 7).trans rfl
  have q7 : W0.cell? ⟨w.heap.size + 1, 7, none⟩ = some (.int .i64 (x.f1.f6)) := (blk_cell BK2.out 7).trans rfl
  have p8 : W0.cell? ⟨w.heap.size, 8, none⟩ = some (.slice A7 (x.f1.f7).length c7) := (blk_cell BK1.out 8).trans rfl
  have q8 : W0.cell? ⟨w.heap.size + 1, 8, none⟩ = some (.slice B7 (x.f1.f7).length d7) := (blk_cell BK2.out 8).trans rfl
  have p9 : W0.cell? ⟨w.heap.size, 9, none⟩ = some (.slice A8 (x.f1.f8).length c8) := (blk_cell BK1.out 9).trans rfl
  have q9 : W0.cell? ⟨w.heap.size + 1, 9, none⟩ = some (.slice B8 (x.f1.f8).length d8) := (blk_cell BK2.out 9).trans rfl
  go_wp2_with (first
    | (go_at_call 67; (with_reducible refine (sameEnd.told x.f1 _ _ _ _ _ _ _ _ _ (Kd.C_below HA7.out HB.out) HC7.out (Kd.C_below HB7.out HB.out) HD7.out (Kd.C_below HA8.out HB.out) HC8.out (Kd.C_below HB8.out HB.out) HD8.out HX7.out HX8.out).mono ?_); rintro e W1 ⟨rfl, hbe⟩; have HB1 := Aside0.mk (below_then HB.out HB.out.size hbe); have BK3 := Aside0.mk (blk_below BK1.out hbe); have BK4 := Aside0.mk (blk_below BK2.out hbe); clear hbe p0 q0 p1 q1 p2 q2 p3 q3 p4 q4 p5 q5 p6 q6 p7 q7 p8 q8 p9 q9; have p0 : W1.cell? ⟨w.heap.size, 0, none⟩ = some (.slice A0 (x.f0).length c0) := (blk_cell BK3.out 0).trans rfl; have q0 : W1.cell? ⟨w.heap.size + 1, 0, none⟩ = some (.slice B0 (x.f0).length d0) := (blk_cell BK4.out 0).trans rfl)
    | fail)
  go_loopw [5] (fun v5 wr => ∃ q : Nat, q ≤ x.f0.length ∧ v5 = .int .i64 (q : Int) ∧ Aside0 (wr.heap[w.heap.size]? = some (.cells #[.slice A0 (x.f0).length c0, .int .i64 (x.f1.f0), .int .i64 (x.f1.f1), .int .i64 (x.f1.f2), .int .i64 (x.f1.f3), .int .u32 (x.f1.f4), .int .i64 (x.f1.f5), .int .i64 (x.f1.f6), .slice A7 (x.f1.f7).length c7, .slice A8 (x.f1.f8).length c8] 77 (0, 0))) ∧ Aside0 (wr.heap[w.heap.size + 1]? = some (.cells #[.slice B0 (x.f0).length d0, .int .i64 (x.f1.f0), .int .i64 (x.f1.f1), .int .i64 (x.f1.f2), .int .i64 (x.f1.f3), .int .u32 (x.f1.f4), .int .i64 (x.f1.f5), .int .i64 (x.f1.f6), .slice B7 (x.f1.f7).length d7, .slice B8 (x.f1.f8).length d8] 77 (0, 0))) ∧ Aside0 (Below w.heap.size w wr)) (fun v5 _ => x.f0.length - (intOf v5).toNat)
  case atStart => exact ⟨0, Nat.zero_le _, rfl, BK3, BK4, HB1⟩
  case round =>
    clear BK1 BK2 BK3 BK4 HB1 HB
    obtain ⟨q, hq, rfl, BK1, BK2, HB⟩ := hrel
    have hq2 : (q : Int) + 1 ≤ 9223372036854775807 := by have := HX.out.1; omega
    have p0 : wr.cell? ⟨w.heap.size, 0, none⟩ = some (.slice A0 (x.f0).length c0) := (blk_cell BK1.out 0).trans rfl
    have q0 : wr.cell? ⟨w.heap.size + 1, 0, none⟩ = some (.slice B0 (x.f0).length d0) := (blk_cell BK2.out 0).trans rfl
    by_cases hlt : q < x.f0.length
    · have HQ := Aside0.mk hlt
      have hltb : decide ((q : Int) < (x.f0.length : Int)) = true := decide_eq_true (by omega)
      have hlti : (q : Int) < (x.f0.length : Int) := by omega
      have HXI := Aside0.mk (HX.out.2.1 _ (rd90_mem (l := x.f0) (i := (q : Int)) (by omega) hlti))
      obtain ⟨ad, Aa, ca, Ab, cb, rfl, y0, y1, y2, y3, y4, y5, y6, y7, la, ga, lb, gb⟩ := at_T90 (Kd.C_below HA0.out HB.out) (q : Int) (by omega) hlti
      obtain ⟨bd, Ba, da, Bb, db, rfl, z0, z1, z2, z3, z4, z5, z6, z7, ma, ha, mb, hb⟩ := at_T90 (Kd.C_below HB0.out HB.out) (q : Int) (by omega) hlti
      rw [Int.toNat_natCast] at y0 y1 y2 y3 y4 y5 y6 y7 z0 z1 z2 z3 z4 z5 z6 z7
      have LA := Aside0.mk la
      have GA := Aside0.mk ga
      have LB := Aside0.mk lb
      have GB := Aside0.mk gb
      have MA := Aside0.mk ma
      have HA := Aside0.mk ha
      have MB := Aside0.mk mb
      have HBB := Aside0.mk hb
      clear hlt la ga lb gb ma ha mb hb
      go_wp2
      go_still_tail 10, (by kernel_rfl)
      change wpList _ _ _ _ _ wr.drew
      have HBd := Aside0.mk (below_drew HB.out)
      have HX6 := Aside0.mk (show (rd_T90 x.f0 (q : Int)).f6.length ≤ 140737488355328 by have := HXI.out.1; omega)
      have HX7b := Aside0.mk (show (rd_T90 x.f0 (q : Int)).f7.length ≤ 140737488355328 by have := HXI.out.2; omega)
      go_wp2_with (first
        | (go_at_call 68; (with_reducible refine (sameIns.told (rd_T90 x.f0 (q : Int)) _ _ _ _ _ _ _ _ _ (Kd.C_drew GA.out) LA.out (Kd.C_drew HA.out) MA.out (Kd.C_drew GB.out) LB.out (Kd.C_drew HBB.out) MB.out HX6.out HX7b.out).mono ?_); rintro e W3 ⟨rfl, hbe⟩; have HB3 := Aside0.mk (below_then HBd.out HBd.out.size hbe); have BK5 := Aside0.mk (blk_below (blk_drew BK1.out) hbe); have BK6 := Aside0.mk (blk_below (blk_drew BK2.out) hbe); clear hbe)
        | fail)
      go_roundw
      case measure => have := HQ.out; simp [intOf]; omega
      case rel => exact ⟨q + 1, HQ.out, by go_num, BK5, BK6, HB3⟩
    · obtain rfl : q = x.f0.length := by omega
      have hltb : decide ((x.f0.length : Int) < (x.f0.length : Int)) = false := decide_eq_false (by omega)
      clear hlt
      go_wp2
      go_ret
      exact ⟨rfl, HB.out⟩
set_option maxHeartbeats 4000000 in
set_option maxRecDepth 100000 in
theorem sameGraph.told (x : S26) (A0 : Option Addr) (c0 : Nat) (B0 : Option Addr) (d0 : Nat) (A2 : Option Addr) (c2 : Nat) (B2 : Option Addr) (d2 : Nat) (A3 : Option Addr) (c3 : Nat) (B3 : Option Addr) (d3 : Nat) (w : World) (hA0 : Kd.C (Kd.int .i64) w A0 (x.f0).length (x.f0)) (hc0 : (x.f0).length ≤ c0) (hB0 : Kd.C (Kd.int .i64) w B0 (x.f0).length (x.f0)) (hd0 : (x.f0).length ≤ d0) (hA2 : k79.C w A2 (x.f2).length (x.f2)) (hc2 : (x.f2).length ≤ c2) (hB2 : k79.C w B2 (x.f2).length (x.f2)) (hd2 : (x.f2).length ≤ d2) (hA3 : k77.C w A3 (x.f3).length (x.f3)) (hc3 : (x.f3).length ≤ c3) (hB3 : k77.C w B3 (x.f3).length (x.f3)) (hd3 : (x.f3).length ≤ d3) (hx : okGr x) :
    Calls Try.prog 13 #[.agg #[.slice A0 (x.f0).length c0, .int .i64 (x.f1), .slice A2 (x.f2).length c2, .slice A3 (x.f3).length c3], .agg #[.slice B0 (x.f0).length d0, .int .i64 (x.f1), .slice B2 (x.f2).length d2, .slice B3 (x.f3).length d3]] w fun e w' => e = .returned (.bool true) ∧ Below w.heap.size w w' := by
  have HA0 := Aside0.mk hA0
  have HC0 := Aside0.mk hc0
  have HB0 := Aside0.mk hB0
  have HD0 := Aside0.mk hd0
  clear hA0 hc0 hB0 hd0
  have HA2 := Aside0.mk hA2
  have HC2 := Aside0.mk hc2
  have HB2 := Aside0.mk hB2
  have HD2 := Aside0.mk hd2
  clear hA2 hc2 hB2 hd2
  have HA3 := Aside0.mk hA3
  have HC3 := Aside0.mk hc3
  have HB3 := Aside0.mk hB3
  have HD3 := Aside0.mk hd3
  clear hA3 hc3 hB3 hd3
  obtain ⟨k0, hk0⟩ := (sameInts_self x.f0 (by have := hx.1; omega)).rounds
  have HK0 := Aside0.mk hk0
  have HX := Aside0.mk hx
  clear hk0 hx
  go_enter Try.func13, Try.ntmps13
  go_upto_region 1 with (fail)
  have BK1 := Aside0.mk (heap_alloc2_old w (.cells #[.slice A0 (x.f0).length c0, .int .i64 (x.f1), .slice A2 (x.f2).length c2, .slice A3 (x.f3).length c3] 26) (.cells #[.slice B0 (x.f0).length d0, .int .i64 (x.f1), .slice B2 (x.f2).length d2, .slice B3 (x.f3).length d3] 26))
  have BK2 := Aside0.mk (heap_alloc2_new w (.cells #[.slice A0 (x.f0).length c0, .int .i64 (x.f1), .slice A2 (x.f2).length c2, .slice A3 (x.f3).length c3] 26) (.cells #[.slice B0 (x.f0).length d0, .int .i64 (x.f1), .slice B2 (x.f2).length d2, .slice B3 (x.f3).length d3] 26))
  have HB := Aside0.mk (below_alloc (below_alloc (Below.refl w.heap.size w) (.cells #[.slice A0 (x.f0).length c0, .int .i64 (x.f1), .slice A2 (x.f2).length c2, .slice A3 (x.f3).length c3] 26)) (.cells #[.slice B0 (x.f0).length d0, .int .i64 (x.f1), .slice B2 (x.f2).length d2, .slice B3 (x.f3).length d3] 26))
  generalize (w.alloc (.cells #[.slice A0 (x.f0).length c0, .int .i64 (x.f1), .slice A2 (x.f2).length c2, .slice A3 (x.f3).length c3] 26)).alloc (.cells #[.slice B0 (x.f0).length d0, .int .i64 (x.f1), .slice B2 (x.f2).length d2, .slice B3 (x.f3).length d3] 26) = W0 at BK1 BK2 HB ⊢
  have p0 : W0.cell? ⟨w.heap.size, 0, none⟩ = some (.slice A0 (x.f0).length c0) := (blk_cell BK1.out 0).trans rfl
  have q0 : W0.cell? ⟨w.heap.size + 1, 0, none⟩ = some (.slice B0 (x.f0).length d0) := (blk_cell BK2.out 0).trans rfl
  have p1 : W0.cell? ⟨w.heap.size, 1, none⟩ = some (.int .i64 (x.f1)) := (blk_cell BK1.out 1).trans rfl
  have q1 : W0.cell? ⟨w.heap.size + 1, 1, none⟩ = some (.int .i64 (x.f1)) := (blk_cell BK2.out 1).trans rfl
  have p2 : W0.cell? ⟨w.heap.size, 2, none⟩ = some (.slice A2 (x.f2).length c2) := (blk_cell BK1.out 2).trans rfl
  have q2 : W0.cell? ⟨w.heap.size + 1, 2, none⟩ = some (.slice B2 (x.f2).length d2) := (blk_cell BK2.out 2).trans rfl
  have p3 : W0.cell? ⟨w.heap.size, 3, none⟩ = some (.slice A3 (x.f3).length c3) := (blk_cell BK1.out 3).trans rfl
  have q3 : W0.cell? ⟨w.heap.size + 1, 3, none⟩ = some (.slice B3 (x.f3).length d3) := (blk_cell BK2.out 3).trans rfl
  go_wp2_with (first
    | (go_at_call 39; (with_reducible refine (switchbacklaw10_SameInts.calls k0 _ _ x.f0 _ _ x.f0 true _ (Kd.C_below HA0.out HB.out) HC0.out (Kd.C_below HB0.out HB.out) HD0.out HK0.out).mono ?_); rintro e W1 ⟨rfl, hdr⟩; have HB1 := Aside0.mk (drawn_below HB.out hdr); have BK3 := Aside0.mk (drawn_blk BK1.out hdr); have BK4 := Aside0.mk (drawn_blk BK2.out hdr); clear hdr p0 q0 p1 q1 p2 q2 p3 q3; have p2 : W1.cell? ⟨w.heap.size, 2, none⟩ = some (.slice A2 (x.f2).length c2) := (blk_cell BK3.out 2).trans rfl; have q2 : W1.cell? ⟨w.heap.size + 1, 2, none⟩ = some (.slice B2 (x.f2).length d2) := (blk_cell BK4.out 2).trans rfl; have p3 : W1.cell? ⟨w.heap.size, 3, none⟩ = some (.slice A3 (x.f3).length c3) := (blk_cell BK3.out 3).trans rfl; have q3 : W1.cell? ⟨w.heap.size + 1, 3, none⟩ = some (.slice B3 (x.f3).length d3) := (blk_cell BK4.out 3).trans rfl)
    | fail)
  go_loopw [5] (fun v5 wr => ∃ q : Nat, q ≤ x.f2.length ∧ v5 = .int .i64 (q : Int) ∧ Aside0 (wr.heap[w.heap.size]? = some (.cells #[.slice A0 (x.f0).length c0, .int .i64 (x.f1), .slice A2 (x.f2).length c2, .slice A3 (x.f3).length c3] 26 (0, 0))) ∧ Aside0 (wr.heap[w.heap.size + 1]? = some (.cells #[.slice B0 (x.f0).length d0, .int .i64 (x.f1), .slice B2 (x.f2).length d2, .slice B3 (x.f3).length d3] 26 (0, 0))) ∧ Aside0 (Below w.heap.size w wr)) (fun v5 _ => x.f2.length - (intOf v5).toNat)
  case atStart => exact ⟨0, Nat.zero_le _, rfl, BK3, BK4, HB1⟩
  case round =>
    clear BK1 BK2 BK3 BK4 HB1 HB
    obtain ⟨q, hq, rfl, BK1, BK2, HB⟩ := hrel
    have hq2 : (q : Int) + 1 ≤ 9223372036854775807 := by have := HX.out.2.1; omega
    have p2 : wr.cell? ⟨w.heap.size, 2, none⟩ = some (.slice A2 (x.f2).length c2) := (blk_cell BK1.out 2).trans rfl
    have q2 : wr.cell? ⟨w.heap.size + 1, 2, none⟩ = some (.slice B2 (x.f2).length d2) := (blk_cell BK2.out 2).trans rfl
    have p3 : wr.cell? ⟨w.heap.size, 3, none⟩ = some (.slice A3 (x.f3).length c3) := (blk_cell BK1.out 3).trans rfl
    have q3 : wr.cell? ⟨w.heap.size + 1, 3, none⟩ = some (.slice B3 (x.f3).length d3) := (blk_cell BK2.out 3).trans rfl
    by_cases hlt : q < x.f2.length
    · have HQ := Aside0.mk hlt
      have hltb : decide ((q : Int) < (x.f2.length : Int)) = true := decide_eq_true (by omega)
      have hlti : (q : Int) < (x.f2.length : Int) := by omega
      obtain ⟨ad, rfl, y0, y1⟩ := at_T79 (Kd.C_below HA2.out HB.out) (q : Int) (by omega) hlti
      obtain ⟨bd, rfl, z0, z1⟩ := at_T79 (Kd.C_below HB2.out HB.out) (q : Int) (by omega) hlti
      rw [Int.toNat_natCast] at y0 y1 z0 z1
      clear hlt
      go_wp2
      go_quiet (fail)
      go_wp2
      go_roundw
      case measure => have := HQ.out; simp [intOf]; omega
      case rel => exact ⟨q + 1, HQ.out, by go_num, ⟨blk_drewN BK1.out _⟩, ⟨blk_drewN BK2.out _⟩, ⟨pw_below_drewN HB.out _⟩⟩
    · obtain rfl : q = x.f2.length := by omega
      have hltb : decide ((x.f2.length : Int) < (x.f2.length : Int)) = false := decide_eq_false (by omega)
      clear hlt
      go_wp2
      obtain ⟨wo, rfl⟩ : ∃ wo : World, wo = wr := ⟨_, rfl⟩
      go_loopw [6] (fun v6 wr => ∃ q : Nat, q ≤ x.f3.length ∧ v6 = .int .i64 (q : Int) ∧ Aside0 (wr.heap[w.heap.size]? = some (.cells #[.slice A0 (x.f0).length c0, .int .i64 (x.f1), .slice A2 (x.f2).length c2, .slice A3 (x.f3).length c3] 26 (0, 0))) ∧ Aside0 (wr.heap[w.heap.size + 1]? = some (.cells #[.slice B0 (x.f0).length d0, .int .i64 (x.f1), .slice B2 (x.f2).length d2, .slice B3 (x.f3).length d3] 26 (0, 0))) ∧ Aside0 (Below w.heap.size w wr)) (fun v6 _ => x.f3.length - (intOf v6).toNat)
      case atStart => exact ⟨0, Nat.zero_le _, rfl, BK1, BK2, HB⟩
      case round =>
        clear p2 q2 p3 q3 BK1 BK2 HB hq hq2 hltb
        obtain ⟨q, hq, rfl, BK1, BK2, HB⟩ := hrel
        have hq2 : (q : Int) + 1 ≤ 9223372036854775807 := by have := HX.out.2.2.1; omega
        have p3 : wr.cell? ⟨w.heap.size, 3, none⟩ = some (.slice A3 (x.f3).length c3) := (blk_cell BK1.out 3).trans rfl
        have q3 : wr.cell? ⟨w.heap.size + 1, 3, none⟩ = some (.slice B3 (x.f3).length d3) := (blk_cell BK2.out 3).trans rfl
        by_cases hlt : q < x.f3.length
        · have HQ := Aside0.mk hlt
          have hltb : decide ((q : Int) < (x.f3.length : Int)) = true := decide_eq_true (by omega)
          have hlti : (q : Int) < (x.f3.length : Int) := by omega
          have HXI := Aside0.mk (HX.out.2.2.2 _ (rd77_mem (l := x.f3) (i := (q : Int)) (by omega) hlti))
          obtain ⟨ad, Aa, ca, Ab, cb, Ac, cc, rfl, y0, y1, y2, y3, y4, y5, y6, y7, y8, y9, la, ga, lb, gb, lc, gc⟩ := at_T77 (Kd.C_below HA3.out HB.out) (q : Int) (by omega) hlti
          obtain ⟨bd, Ba, da, Bb, db, Bc, dc, rfl, z0, z1, z2, z3, z4, z5, z6, z7, z8, z9, ma, ha, mb, hb, mc, hc⟩ := at_T77 (Kd.C_below HB3.out HB.out) (q : Int) (by omega) hlti
          rw [Int.toNat_natCast] at y0 y1 y2 y3 y4 y5 y6 y7 y8 y9 z0 z1 z2 z3 z4 z5 z6 z7 z8 z9
          have LA := Aside0.mk la
          have GA := Aside0.mk ga
          have LB := Aside0.mk lb
          have GB := Aside0.mk gb
          have LC := Aside0.mk lc
          have GC := Aside0.mk gc
          have MA := Aside0.mk ma
          have HA := Aside0.mk ha
          have MB := Aside0.mk mb
          have HBB := Aside0.mk hb
          have MC := Aside0.mk mc
          have HCC := Aside0.mk hc
          clear hlt la ga lb gb lc gc ma ha mb hb mc hc
          go_wp2
          go_still_tail 10, (by kernel_rfl)
          change wpList _ _ _ _ _ wr.drew
          have HBd := Aside0.mk (below_drew HB.out)
          go_wp2_with (first
            | (go_at_call 40; (with_reducible refine (sameBlock.told (rd_T77 x.f3 (q : Int)) _ _ _ _ _ _ _ _ _ _ _ _ _ (Kd.C_drew GA.out) LA.out (Kd.C_drew HA.out) MA.out (Kd.C_drew GB.out) LB.out (Kd.C_drew HBB.out) MB.out (Kd.C_drew GC.out) LC.out (Kd.C_drew HCC.out) MC.out HXI.out).mono ?_); rintro e W3 ⟨rfl, hbe⟩; have HB3 := Aside0.mk (below_then HBd.out HBd.out.size hbe); have BK5 := Aside0.mk (blk_below (blk_drew BK1.out) hbe); have BK6 := Aside0.mk (blk_below (blk_drew BK2.out) hbe); clear hbe)
            | fail)
          go_roundw
          case measure => have := HQ.out; simp [intOf]; omega
          case rel => exact ⟨q + 1, HQ.out, by go_num, BK5, BK6, HB3⟩
        · obtain rfl : q = x.f3.length := by omega
          have hltb : decide ((x.f3.length : Int) < (x.f3.length : Int)) = false := decide_eq_false (by omega)
          clear hlt
          go_wp2
          go_ret
          exact ⟨rfl, HB.out⟩
end Go.Proofs.Ytocdebfbpfmnnaa.Pr
