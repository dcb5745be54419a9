/- A part of the proofs of the laws of flow: XH. -/
import Derived.Test.YtabffaaoldfjkaaXF
import Derived.Test.YtabffaaoldfjkaaXE
/- FlowShares: each case, what is asked left open. -/
namespace Go.Proofs.Ytabffaaoldfjkaa.Ex
open Go.Proofs Go.Proofs.Ytabffaaoldfjkaa
set_option maxRecDepth 100000
set_option linter.unusedSimpArgs false
set_option linter.unusedVariables false
abbrev I := Int × Int
theorem wrap64 (n : Int) : Go.IntKind.i64.wrap n = (n + 9223372036854775808) % 18446744073709551616 - 9223372036854775808 := by
  simp [Go.IntKind.wrap, Go.IntKind.signed, Go.IntKind.bits]
  split <;> omega
theorem sem_node {b : Bool} {x y : Tr} {r : AV × Hp} (h1 : b = true → x.sem = some r) (h2 : b = false → y.sem = some r) : (Tr.node b x y).sem = some r := by
  cases b
  · exact h2 rfl
  · exact h1 rfl
theorem of_tree {t u : Tr} {r : AV × Hp} (e : t = u) (h : u.sem = some r) : t.sem = some r := by rw [e]; exact h
theorem fsg1 (a b : I) (h o : Int) : evW cxD keeps 12 5 [.agg [.int .i64 a.1, .int .i64 a.2], .agg [.int .i64 b.1, .int .i64 b.2], .int .i64 h, .int .i64 o] (WT.ask 0 (WT.ask 11 (WT.ask 14 WT.auto WT.cut) (WT.ask 5 (WT.ask 2 (WT.ask 5 (WT.ask 2 (WT.ask 7 WT.auto (WT.ask 2 WT.auto WT.cut)) WT.cut) WT.auto) WT.auto) WT.auto)) (WT.ask 5 (WT.ask 2 (WT.ask 5 (WT.ask 2 (WT.ask 5 WT.auto (WT.ask 1 (WT.ask 14 WT.cut (WT.ask 2 WT.auto WT.cut)) (WT.ask 5 (WT.ask 2 (WT.ask 5 (WT.ask 2 (WT.ask 7 WT.auto (WT.ask 2 WT.cut (WT.ask 2 WT.cut (WT.ask 2 WT.auto WT.cut)))) WT.cut) WT.auto) WT.auto) WT.auto))) WT.cut) WT.auto) WT.auto) WT.auto)) =
  Tr.node (a.fst == 1 && a.snd == 0)
  (Tr.node (b.fst == 1 && b.snd == 0) (Tr.node (decide (a.fst > a.snd)) (Tr.leaf (AV.bool Bool.true) { blks := [], c := 0 }) Tr.dead)
    (Tr.node (decide (b.fst ≤ b.snd))
      (Tr.node (decide (b.fst ≥ -2147483648))
        (Tr.node (decide (b.fst ≤ 2147483647))
          (Tr.node (decide (b.snd ≥ -2147483648))
            (Tr.node (!decide (b.snd ≤ 2147483647)) (Tr.leaf (AV.bool Bool.true) { blks := [], c := 0 })
              (Tr.node (decide (a.fst > a.snd)) (Tr.leaf (AV.bool Bool.true) { blks := [], c := 0 }) Tr.dead))
            Tr.dead)
          (Tr.leaf (AV.bool Bool.true) { blks := [], c := 0 }))
        (Tr.leaf (AV.bool Bool.true) { blks := [], c := 0 }))
      (Tr.leaf (AV.bool Bool.true) { blks := [], c := 0 })))
  (Tr.node (decide (a.fst ≤ a.snd))
    (Tr.node (decide (a.fst ≥ -2147483648))
      (Tr.node (decide (a.fst ≤ 2147483647))
        (Tr.node (decide (a.snd ≥ -2147483648))
          (Tr.node (!decide (a.snd ≤ 2147483647)) (Tr.leaf (AV.bool Bool.true) { blks := [], c := 0 })
            (Tr.node (b.fst == 1 && b.snd == 0)
              (Tr.node (decide (a.fst > a.snd)) Tr.dead
                (Tr.node (decide (b.fst > b.snd)) (Tr.leaf (AV.bool Bool.true) { blks := [], c := 0 }) Tr.dead))
              (Tr.node (decide (b.fst ≤ b.snd))
                (Tr.node (decide (b.fst ≥ -2147483648))
                  (Tr.node (decide (b.fst ≤ 2147483647))
                    (Tr.node (decide (b.snd ≥ -2147483648))
                      (Tr.node (!decide (b.snd ≤ 2147483647)) (Tr.leaf (AV.bool Bool.true) { blks := [], c := 0 })
                        (Tr.node (decide (a.fst > a.snd)) Tr.dead
                          (Tr.node (decide (b.fst > b.snd)) Tr.dead
                            (Tr.node (decide (h < 0)) (Tr.leaf (AV.bool Bool.true) { blks := [], c := 0 }) Tr.dead))))
                      Tr.dead)
                    (Tr.leaf (AV.bool Bool.true) { blks := [], c := 0 }))
                  (Tr.leaf (AV.bool Bool.true) { blks := [], c := 0 }))
                (Tr.leaf (AV.bool Bool.true) { blks := [], c := 0 }))))
          Tr.dead)
        (Tr.leaf (AV.bool Bool.true) { blks := [], c := 0 }))
      (Tr.leaf (AV.bool Bool.true) { blks := [], c := 0 }))
    (Tr.leaf (AV.bool Bool.true) { blks := [], c := 0 })) := by kernel_rfl
theorem fsg2 (a b : I) (h o : Int) : evW cxD keeps 12 5 [.agg [.int .i64 a.1, .int .i64 a.2], .agg [.int .i64 b.1, .int .i64 b.2], .int .i64 h, .int .i64 o] (WT.ask 0 (WT.ask 11 (WT.ask 14 WT.auto WT.cut) (WT.ask 5 (WT.ask 2 (WT.ask 5 (WT.ask 2 (WT.ask 7 WT.auto (WT.ask 2 WT.auto WT.cut)) WT.cut) WT.auto) WT.auto) WT.auto)) (WT.ask 5 (WT.ask 2 (WT.ask 5 (WT.ask 2 (WT.ask 5 WT.auto (WT.ask 1 (WT.ask 14 WT.cut (WT.ask 2 WT.auto WT.cut)) (WT.ask 5 (WT.ask 2 (WT.ask 5 (WT.ask 2 (WT.ask 7 WT.auto (WT.ask 2 WT.cut (WT.ask 2 WT.cut (WT.ask 2 WT.cut (WT.ask 2 WT.auto WT.cut))))) WT.cut) WT.auto) WT.auto) WT.auto))) WT.cut) WT.auto) WT.auto) WT.auto)) =
  Tr.node (a.fst == 1 && a.snd == 0)
  (Tr.node (b.fst == 1 && b.snd == 0) (Tr.node (decide (a.fst > a.snd)) (Tr.leaf (AV.bool Bool.true) { blks := [], c := 0 }) Tr.dead)
    (Tr.node (decide (b.fst ≤ b.snd))
      (Tr.node (decide (b.fst ≥ -2147483648))
        (Tr.node (decide (b.fst ≤ 2147483647))
          (Tr.node (decide (b.snd ≥ -2147483648))
            (Tr.node (!decide (b.snd ≤ 2147483647)) (Tr.leaf (AV.bool Bool.true) { blks := [], c := 0 })
              (Tr.node (decide (a.fst > a.snd)) (Tr.leaf (AV.bool Bool.true) { blks := [], c := 0 }) Tr.dead))
            Tr.dead)
          (Tr.leaf (AV.bool Bool.true) { blks := [], c := 0 }))
        (Tr.leaf (AV.bool Bool.true) { blks := [], c := 0 }))
      (Tr.leaf (AV.bool Bool.true) { blks := [], c := 0 })))
  (Tr.node (decide (a.fst ≤ a.snd))
    (Tr.node (decide (a.fst ≥ -2147483648))
      (Tr.node (decide (a.fst ≤ 2147483647))
        (Tr.node (decide (a.snd ≥ -2147483648))
          (Tr.node (!decide (a.snd ≤ 2147483647)) (Tr.leaf (AV.bool Bool.true) { blks := [], c := 0 })
            (Tr.node (b.fst == 1 && b.snd == 0)
              (Tr.node (decide (a.fst > a.snd)) Tr.dead
                (Tr.node (decide (b.fst > b.snd)) (Tr.leaf (AV.bool Bool.true) { blks := [], c := 0 }) Tr.dead))
              (Tr.node (decide (b.fst ≤ b.snd))
                (Tr.node (decide (b.fst ≥ -2147483648))
                  (Tr.node (decide (b.fst ≤ 2147483647))
                    (Tr.node (decide (b.snd ≥ -2147483648))
                      (Tr.node (!decide (b.snd ≤ 2147483647)) (Tr.leaf (AV.bool Bool.true) { blks := [], c := 0 })
                        (Tr.node (decide (a.fst > a.snd)) Tr.dead
                          (Tr.node (decide (b.fst > b.snd)) Tr.dead
                            (Tr.node (decide (h < 0)) Tr.dead
                              (Tr.node (decide (h > 3)) (Tr.leaf (AV.bool Bool.true) { blks := [], c := 0 }) Tr.dead)))))
                      Tr.dead)
                    (Tr.leaf (AV.bool Bool.true) { blks := [], c := 0 }))
                  (Tr.leaf (AV.bool Bool.true) { blks := [], c := 0 }))
                (Tr.leaf (AV.bool Bool.true) { blks := [], c := 0 }))))
          Tr.dead)
        (Tr.leaf (AV.bool Bool.true) { blks := [], c := 0 }))
      (Tr.leaf (AV.bool Bool.true) { blks := [], c := 0 }))
    (Tr.leaf (AV.bool Bool.true) { blks := [], c := 0 })) := by kernel_rfl
theorem fsg3 (a b : I) (h o : Int) : evW cxD keeps 12 5 [.agg [.int .i64 a.1, .int .i64 a.2], .agg [.int .i64 b.1, .int .i64 b.2], .int .i64 h, .int .i64 o] (WT.ask 0 (WT.ask 11 (WT.ask 14 WT.auto WT.cut) (WT.ask 5 (WT.ask 2 (WT.ask 5 (WT.ask 2 (WT.ask 7 WT.auto (WT.ask 2 WT.auto WT.cut)) WT.cut) WT.auto) WT.auto) WT.auto)) (WT.ask 5 (WT.ask 2 (WT.ask 5 (WT.ask 2 (WT.ask 5 WT.auto (WT.ask 1 (WT.ask 14 WT.cut (WT.ask 2 WT.auto WT.cut)) (WT.ask 5 (WT.ask 2 (WT.ask 5 (WT.ask 2 (WT.ask 7 WT.auto (WT.ask 2 WT.cut (WT.ask 2 WT.cut (WT.ask 2 WT.cut (WT.ask 2 WT.cut (WT.ask 2 WT.auto WT.cut)))))) WT.cut) WT.auto) WT.auto) WT.auto))) WT.cut) WT.auto) WT.auto) WT.auto)) =
  Tr.node (a.fst == 1 && a.snd == 0)
  (Tr.node (b.fst == 1 && b.snd == 0) (Tr.node (decide (a.fst > a.snd)) (Tr.leaf (AV.bool Bool.true) { blks := [], c := 0 }) Tr.dead)
    (Tr.node (decide (b.fst ≤ b.snd))
      (Tr.node (decide (b.fst ≥ -2147483648))
        (Tr.node (decide (b.fst ≤ 2147483647))
          (Tr.node (decide (b.snd ≥ -2147483648))
            (Tr.node (!decide (b.snd ≤ 2147483647)) (Tr.leaf (AV.bool Bool.true) { blks := [], c := 0 })
              (Tr.node (decide (a.fst > a.snd)) (Tr.leaf (AV.bool Bool.true) { blks := [], c := 0 }) Tr.dead))
            Tr.dead)
          (Tr.leaf (AV.bool Bool.true) { blks := [], c := 0 }))
        (Tr.leaf (AV.bool Bool.true) { blks := [], c := 0 }))
      (Tr.leaf (AV.bool Bool.true) { blks := [], c := 0 })))
  (Tr.node (decide (a.fst ≤ a.snd))
    (Tr.node (decide (a.fst ≥ -2147483648))
      (Tr.node (decide (a.fst ≤ 2147483647))
        (Tr.node (decide (a.snd ≥ -2147483648))
          (Tr.node (!decide (a.snd ≤ 2147483647)) (Tr.leaf (AV.bool Bool.true) { blks := [], c := 0 })
            (Tr.node (b.fst == 1 && b.snd == 0)
              (Tr.node (decide (a.fst > a.snd)) Tr.dead
                (Tr.node (decide (b.fst > b.snd)) (Tr.leaf (AV.bool Bool.true) { blks := [], c := 0 }) Tr.dead))
              (Tr.node (decide (b.fst ≤ b.snd))
                (Tr.node (decide (b.fst ≥ -2147483648))
                  (Tr.node (decide (b.fst ≤ 2147483647))
                    (Tr.node (decide (b.snd ≥ -2147483648))
                      (Tr.node (!decide (b.snd ≤ 2147483647)) (Tr.leaf (AV.bool Bool.true) { blks := [], c := 0 })
                        (Tr.node (decide (a.fst > a.snd)) Tr.dead
                          (Tr.node (decide (b.fst > b.snd)) Tr.dead
                            (Tr.node (decide (h < 0)) Tr.dead
                              (Tr.node (decide (h > 3)) Tr.dead
                                (Tr.node (decide (o < 0)) (Tr.leaf (AV.bool Bool.true) { blks := [], c := 0 }) Tr.dead))))))
                      Tr.dead)
                    (Tr.leaf (AV.bool Bool.true) { blks := [], c := 0 }))
                  (Tr.leaf (AV.bool Bool.true) { blks := [], c := 0 }))
                (Tr.leaf (AV.bool Bool.true) { blks := [], c := 0 }))))
          Tr.dead)
        (Tr.leaf (AV.bool Bool.true) { blks := [], c := 0 }))
      (Tr.leaf (AV.bool Bool.true) { blks := [], c := 0 }))
    (Tr.leaf (AV.bool Bool.true) { blks := [], c := 0 })) := by kernel_rfl
theorem fsg4 (a b : I) (h o : Int) : evW cxD keeps 12 5 [.agg [.int .i64 a.1, .int .i64 a.2], .agg [.int .i64 b.1, .int .i64 b.2], .int .i64 h, .int .i64 o] (WT.ask 0 (WT.ask 11 (WT.ask 14 WT.auto WT.cut) (WT.ask 5 (WT.ask 2 (WT.ask 5 (WT.ask 2 (WT.ask 7 WT.auto (WT.ask 2 WT.auto WT.cut)) WT.cut) WT.auto) WT.auto) WT.auto)) (WT.ask 5 (WT.ask 2 (WT.ask 5 (WT.ask 2 (WT.ask 5 WT.auto (WT.ask 1 (WT.ask 14 WT.cut (WT.ask 2 WT.auto WT.cut)) (WT.ask 5 (WT.ask 2 (WT.ask 5 (WT.ask 2 (WT.ask 7 WT.auto (WT.ask 2 WT.cut (WT.ask 2 WT.cut (WT.ask 2 WT.cut (WT.ask 2 WT.cut (WT.ask 2 WT.cut (WT.ask 2 WT.auto WT.cut))))))) WT.cut) WT.auto) WT.auto) WT.auto))) WT.cut) WT.auto) WT.auto) WT.auto)) =
  Tr.node (a.fst == 1 && a.snd == 0)
  (Tr.node (b.fst == 1 && b.snd == 0) (Tr.node (decide (a.fst > a.snd)) (Tr.leaf (AV.bool Bool.true) { blks := [], c := 0 }) Tr.dead)
    (Tr.node (decide (b.fst ≤ b.snd))
      (Tr.node (decide (b.fst ≥ -2147483648))
        (Tr.node (decide (b.fst ≤ 2147483647))
          (Tr.node (decide (b.snd ≥ -2147483648))
            (Tr.node (!decide (b.snd ≤ 2147483647)) (Tr.leaf (AV.bool Bool.true) { blks := [], c := 0 })
              (Tr.node (decide (a.fst > a.snd)) (Tr.leaf (AV.bool Bool.true) { blks := [], c := 0 }) Tr.dead))
            Tr.dead)
          (Tr.leaf (AV.bool Bool.true) { blks := [], c := 0 }))
        (Tr.leaf (AV.bool Bool.true) { blks := [], c := 0 }))
      (Tr.leaf (AV.bool Bool.true) { blks := [], c := 0 })))
  (Tr.node (decide (a.fst ≤ a.snd))
    (Tr.node (decide (a.fst ≥ -2147483648))
      (Tr.node (decide (a.fst ≤ 2147483647))
        (Tr.node (decide (a.snd ≥ -2147483648))
          (Tr.node (!decide (a.snd ≤ 2147483647)) (Tr.leaf (AV.bool Bool.true) { blks := [], c := 0 })
            (Tr.node (b.fst == 1 && b.snd == 0)
              (Tr.node (decide (a.fst > a.snd)) Tr.dead
                (Tr.node (decide (b.fst > b.snd)) (Tr.leaf (AV.bool Bool.true) { blks := [], c := 0 }) Tr.dead))
              (Tr.node (decide (b.fst ≤ b.snd))
                (Tr.node (decide (b.fst ≥ -2147483648))
                  (Tr.node (decide (b.fst ≤ 2147483647))
                    (Tr.node (decide (b.snd ≥ -2147483648))
                      (Tr.node (!decide (b.snd ≤ 2147483647)) (Tr.leaf (AV.bool Bool.true) { blks := [], c := 0 })
                        (Tr.node (decide (a.fst > a.snd)) Tr.dead
                          (Tr.node (decide (b.fst > b.snd)) Tr.dead
                            (Tr.node (decide (h < 0)) Tr.dead
                              (Tr.node (decide (h > 3)) Tr.dead
                                (Tr.node (decide (o < 0)) Tr.dead
                                  (Tr.node (decide (o > 3)) (Tr.leaf (AV.bool Bool.true) { blks := [], c := 0 }) Tr.dead)))))))
                      Tr.dead)
                    (Tr.leaf (AV.bool Bool.true) { blks := [], c := 0 }))
                  (Tr.leaf (AV.bool Bool.true) { blks := [], c := 0 }))
                (Tr.leaf (AV.bool Bool.true) { blks := [], c := 0 }))))
          Tr.dead)
        (Tr.leaf (AV.bool Bool.true) { blks := [], c := 0 }))
      (Tr.leaf (AV.bool Bool.true) { blks := [], c := 0 }))
    (Tr.leaf (AV.bool Bool.true) { blks := [], c := 0 })) := by kernel_rfl
theorem fs00 (a b : I) : evW cxD keeps 12 5 [.agg [.int .i64 a.1, .int .i64 a.2], .agg [.int .i64 b.1, .int .i64 b.2], .int .i64 0, .int .i64 0] (WT.ask 0 (WT.ask 11 (WT.ask 14 WT.auto WT.cut) (WT.ask 5 (WT.ask 2 (WT.ask 5 (WT.ask 2 (WT.ask 7 WT.auto (WT.ask 2 WT.auto WT.cut)) WT.cut) WT.auto) WT.auto) WT.auto)) (WT.ask 5 (WT.ask 2 (WT.ask 5 (WT.ask 2 (WT.ask 5 WT.auto (WT.ask 1 (WT.ask 14 WT.cut (WT.ask 2 WT.auto WT.cut)) (WT.ask 5 (WT.ask 2 (WT.ask 5 (WT.ask 2 (WT.ask 7 WT.auto (WT.ask 2 WT.cut (WT.ask 2 WT.cut (WT.ask 81 WT.cut (WT.ask 362 WT.cut (WT.ask 5 WT.cut (WT.ask 3 WT.cut (WT.ask 0 WT.cut (WT.ask 8 WT.cut (WT.ask 0 WT.cut (WT.ask 15 WT.auto WT.cut))))))))))) WT.cut) WT.auto) WT.auto) WT.auto))) WT.cut) WT.auto) WT.auto) WT.auto)) =
  Tr.node (a.fst == 1 && a.snd == 0)
  (Tr.node (b.fst == 1 && b.snd == 0) (Tr.node (decide (a.fst > a.snd)) (Tr.leaf (AV.bool Bool.true) { blks := [], c := 0 }) Tr.dead)
    (Tr.node (decide (b.fst ≤ b.snd))
      (Tr.node (decide (b.fst ≥ -2147483648))
        (Tr.node (decide (b.fst ≤ 2147483647))
          (Tr.node (decide (b.snd ≥ -2147483648))
            (Tr.node (!decide (b.snd ≤ 2147483647)) (Tr.leaf (AV.bool Bool.true) { blks := [], c := 0 })
              (Tr.node (decide (a.fst > a.snd)) (Tr.leaf (AV.bool Bool.true) { blks := [], c := 0 }) Tr.dead))
            Tr.dead)
          (Tr.leaf (AV.bool Bool.true) { blks := [], c := 0 }))
        (Tr.leaf (AV.bool Bool.true) { blks := [], c := 0 }))
      (Tr.leaf (AV.bool Bool.true) { blks := [], c := 0 })))
  (Tr.node (decide (a.fst ≤ a.snd))
    (Tr.node (decide (a.fst ≥ -2147483648))
      (Tr.node (decide (a.fst ≤ 2147483647))
        (Tr.node (decide (a.snd ≥ -2147483648))
          (Tr.node (!decide (a.snd ≤ 2147483647)) (Tr.leaf (AV.bool Bool.true) { blks := [], c := 0 })
            (Tr.node (b.fst == 1 && b.snd == 0)
              (Tr.node (decide (a.fst > a.snd)) Tr.dead
                (Tr.node (decide (b.fst > b.snd)) (Tr.leaf (AV.bool Bool.true) { blks := [], c := 0 }) Tr.dead))
              (Tr.node (decide (b.fst ≤ b.snd))
                (Tr.node (decide (b.fst ≥ -2147483648))
                  (Tr.node (decide (b.fst ≤ 2147483647))
                    (Tr.node (decide (b.snd ≥ -2147483648))
                      (Tr.node (!decide (b.snd ≤ 2147483647)) (Tr.leaf (AV.bool Bool.true) { blks := [], c := 0 })
                        (Tr.node (decide (a.fst > a.snd)) Tr.dead
                          (Tr.node (decide (b.fst > b.snd)) Tr.dead
                            (Tr.node (!(0 == 0 && (Bool.false == Bool.false && (0 == 0 && (0 == 0 && (a.fst == a.fst && a.snd == a.snd)))))) Tr.dead
                              (Tr.node (decide (b.fst > b.snd)) Tr.dead
                                (Tr.node (decide (a.fst > a.snd)) Tr.dead
                                  (Tr.node (decide (b.fst > b.snd)) Tr.dead
                                    (Tr.node (decide (a.fst > a.snd)) Tr.dead
                                      (Tr.node (decide (a.fst > a.snd)) Tr.dead
                                        (Tr.node (decide (b.fst > b.snd)) Tr.dead
                                          (Tr.node
                                            (((if b.fst < a.fst then b.fst else a.fst) == if b.fst < a.fst then b.fst else a.fst) &&
                                              (if b.snd > a.snd then b.snd else a.snd) == if b.snd > a.snd then b.snd else a.snd)
                                            (Tr.leaf (AV.bool !Bool.false) { blks := [], c := 0 }) Tr.dead)))))))))))
                      Tr.dead)
                    (Tr.leaf (AV.bool Bool.true) { blks := [], c := 0 }))
                  (Tr.leaf (AV.bool Bool.true) { blks := [], c := 0 }))
                (Tr.leaf (AV.bool Bool.true) { blks := [], c := 0 }))))
          Tr.dead)
        (Tr.leaf (AV.bool Bool.true) { blks := [], c := 0 }))
      (Tr.leaf (AV.bool Bool.true) { blks := [], c := 0 }))
    (Tr.leaf (AV.bool Bool.true) { blks := [], c := 0 })) := by kernel_rfl
theorem fs01 (a b : I) : evW cxD keeps 12 5 [.agg [.int .i64 a.1, .int .i64 a.2], .agg [.int .i64 b.1, .int .i64 b.2], .int .i64 0, .int .i64 1] (WT.ask 0 (WT.ask 11 (WT.ask 14 WT.auto WT.cut) (WT.ask 5 (WT.ask 2 (WT.ask 5 (WT.ask 2 (WT.ask 7 WT.auto (WT.ask 2 WT.auto WT.cut)) WT.cut) WT.auto) WT.auto) WT.auto)) (WT.ask 5 (WT.ask 2 (WT.ask 5 (WT.ask 2 (WT.ask 5 WT.auto (WT.ask 1 (WT.ask 14 WT.cut (WT.ask 2 WT.auto WT.cut)) (WT.ask 5 (WT.ask 2 (WT.ask 5 (WT.ask 2 (WT.ask 7 WT.auto (WT.ask 2 WT.cut (WT.ask 2 WT.cut (WT.ask 81 WT.cut (WT.ask 362 WT.cut (WT.ask 5 WT.cut (WT.ask 3 WT.cut (WT.ask 0 WT.cut (WT.ask 8 WT.cut (WT.ask 0 WT.cut (WT.ask 15 WT.auto WT.cut))))))))))) WT.cut) WT.auto) WT.auto) WT.auto))) WT.cut) WT.auto) WT.auto) WT.auto)) =
  Tr.node (a.fst == 1 && a.snd == 0)
  (Tr.node (b.fst == 1 && b.snd == 0) (Tr.node (decide (a.fst > a.snd)) (Tr.leaf (AV.bool Bool.true) { blks := [], c := 0 }) Tr.dead)
    (Tr.node (decide (b.fst ≤ b.snd))
      (Tr.node (decide (b.fst ≥ -2147483648))
        (Tr.node (decide (b.fst ≤ 2147483647))
          (Tr.node (decide (b.snd ≥ -2147483648))
            (Tr.node (!decide (b.snd ≤ 2147483647)) (Tr.leaf (AV.bool Bool.true) { blks := [], c := 0 })
              (Tr.node (decide (a.fst > a.snd)) (Tr.leaf (AV.bool Bool.true) { blks := [], c := 0 }) Tr.dead))
            Tr.dead)
          (Tr.leaf (AV.bool Bool.true) { blks := [], c := 0 }))
        (Tr.leaf (AV.bool Bool.true) { blks := [], c := 0 }))
      (Tr.leaf (AV.bool Bool.true) { blks := [], c := 0 })))
  (Tr.node (decide (a.fst ≤ a.snd))
    (Tr.node (decide (a.fst ≥ -2147483648))
      (Tr.node (decide (a.fst ≤ 2147483647))
        (Tr.node (decide (a.snd ≥ -2147483648))
          (Tr.node (!decide (a.snd ≤ 2147483647)) (Tr.leaf (AV.bool Bool.true) { blks := [], c := 0 })
            (Tr.node (b.fst == 1 && b.snd == 0)
              (Tr.node (decide (a.fst > a.snd)) Tr.dead
                (Tr.node (decide (b.fst > b.snd)) (Tr.leaf (AV.bool Bool.true) { blks := [], c := 0 }) Tr.dead))
              (Tr.node (decide (b.fst ≤ b.snd))
                (Tr.node (decide (b.fst ≥ -2147483648))
                  (Tr.node (decide (b.fst ≤ 2147483647))
                    (Tr.node (decide (b.snd ≥ -2147483648))
                      (Tr.node (!decide (b.snd ≤ 2147483647)) (Tr.leaf (AV.bool Bool.true) { blks := [], c := 0 })
                        (Tr.node (decide (a.fst > a.snd)) Tr.dead
                          (Tr.node (decide (b.fst > b.snd)) Tr.dead
                            (Tr.node (!(0 == 0 && (Bool.false == Bool.false && (0 == 0 && (0 == 0 && (a.fst == a.fst && a.snd == a.snd)))))) Tr.dead
                              (Tr.node (decide (b.fst > b.snd)) Tr.dead
                                (Tr.node (decide (a.fst > a.snd)) Tr.dead
                                  (Tr.node (decide (b.fst > b.snd)) Tr.dead
                                    (Tr.node (decide (a.fst > a.snd)) Tr.dead
                                      (Tr.node (decide (a.fst > a.snd)) Tr.dead
                                        (Tr.node (decide (b.fst > b.snd)) Tr.dead
                                          (Tr.node
                                            (((if b.fst < a.fst then b.fst else a.fst) == if b.fst < a.fst then b.fst else a.fst) &&
                                              (if b.snd > a.snd then b.snd else a.snd) == if b.snd > a.snd then b.snd else a.snd)
                                            (Tr.leaf (AV.bool !Bool.false) { blks := [], c := 0 }) Tr.dead)))))))))))
                      Tr.dead)
                    (Tr.leaf (AV.bool Bool.true) { blks := [], c := 0 }))
                  (Tr.leaf (AV.bool Bool.true) { blks := [], c := 0 }))
                (Tr.leaf (AV.bool Bool.true) { blks := [], c := 0 }))))
          Tr.dead)
        (Tr.leaf (AV.bool Bool.true) { blks := [], c := 0 }))
      (Tr.leaf (AV.bool Bool.true) { blks := [], c := 0 }))
    (Tr.leaf (AV.bool Bool.true) { blks := [], c := 0 })) := by kernel_rfl
theorem fs02 (a b : I) : evW cxD keeps 12 5 [.agg [.int .i64 a.1, .int .i64 a.2], .agg [.int .i64 b.1, .int .i64 b.2], .int .i64 0, .int .i64 2] (WT.ask 0 (WT.ask 11 (WT.ask 14 WT.auto WT.cut) (WT.ask 5 (WT.ask 2 (WT.ask 5 (WT.ask 2 (WT.ask 7 WT.auto (WT.ask 2 WT.auto WT.cut)) WT.cut) WT.auto) WT.auto) WT.auto)) (WT.ask 5 (WT.ask 2 (WT.ask 5 (WT.ask 2 (WT.ask 5 WT.auto (WT.ask 1 (WT.ask 14 WT.cut (WT.ask 2 WT.auto WT.cut)) (WT.ask 5 (WT.ask 2 (WT.ask 5 (WT.ask 2 (WT.ask 7 WT.auto (WT.ask 2 WT.cut (WT.ask 2 WT.cut (WT.ask 81 WT.cut (WT.ask 362 WT.cut (WT.ask 5 WT.cut (WT.ask 3 WT.cut (WT.ask 0 WT.cut (WT.ask 8 WT.cut (WT.ask 0 WT.cut (WT.ask 15 WT.auto WT.cut))))))))))) WT.cut) WT.auto) WT.auto) WT.auto))) WT.cut) WT.auto) WT.auto) WT.auto)) =
  Tr.node (a.fst == 1 && a.snd == 0)
  (Tr.node (b.fst == 1 && b.snd == 0) (Tr.node (decide (a.fst > a.snd)) (Tr.leaf (AV.bool Bool.true) { blks := [], c := 0 }) Tr.dead)
    (Tr.node (decide (b.fst ≤ b.snd))
      (Tr.node (decide (b.fst ≥ -2147483648))
        (Tr.node (decide (b.fst ≤ 2147483647))
          (Tr.node (decide (b.snd ≥ -2147483648))
            (Tr.node (!decide (b.snd ≤ 2147483647)) (Tr.leaf (AV.bool Bool.true) { blks := [], c := 0 })
              (Tr.node (decide (a.fst > a.snd)) (Tr.leaf (AV.bool Bool.true) { blks := [], c := 0 }) Tr.dead))
            Tr.dead)
          (Tr.leaf (AV.bool Bool.true) { blks := [], c := 0 }))
        (Tr.leaf (AV.bool Bool.true) { blks := [], c := 0 }))
      (Tr.leaf (AV.bool Bool.true) { blks := [], c := 0 })))
  (Tr.node (decide (a.fst ≤ a.snd))
    (Tr.node (decide (a.fst ≥ -2147483648))
      (Tr.node (decide (a.fst ≤ 2147483647))
        (Tr.node (decide (a.snd ≥ -2147483648))
          (Tr.node (!decide (a.snd ≤ 2147483647)) (Tr.leaf (AV.bool Bool.true) { blks := [], c := 0 })
            (Tr.node (b.fst == 1 && b.snd == 0)
              (Tr.node (decide (a.fst > a.snd)) Tr.dead
                (Tr.node (decide (b.fst > b.snd)) (Tr.leaf (AV.bool Bool.true) { blks := [], c := 0 }) Tr.dead))
              (Tr.node (decide (b.fst ≤ b.snd))
                (Tr.node (decide (b.fst ≥ -2147483648))
                  (Tr.node (decide (b.fst ≤ 2147483647))
                    (Tr.node (decide (b.snd ≥ -2147483648))
                      (Tr.node (!decide (b.snd ≤ 2147483647)) (Tr.leaf (AV.bool Bool.true) { blks := [], c := 0 })
                        (Tr.node (decide (a.fst > a.snd)) Tr.dead
                          (Tr.node (decide (b.fst > b.snd)) Tr.dead
                            (Tr.node (!(0 == 0 && (Bool.false == Bool.false && (0 == 0 && (0 == 0 && (a.fst == a.fst && a.snd == a.snd)))))) Tr.dead
                              (Tr.node (decide (b.fst > b.snd)) Tr.dead
                                (Tr.node (decide (a.fst > a.snd)) Tr.dead
                                  (Tr.node (decide (b.fst > b.snd)) Tr.dead
                                    (Tr.node (decide (a.fst > a.snd)) Tr.dead
                                      (Tr.node (decide (a.fst > a.snd)) Tr.dead
                                        (Tr.node (decide (b.fst > b.snd)) Tr.dead
                                          (Tr.node
                                            (((if b.fst < a.fst then b.fst else a.fst) == if b.fst < a.fst then b.fst else a.fst) &&
                                              (if b.snd > a.snd then b.snd else a.snd) == if b.snd > a.snd then b.snd else a.snd)
                                            (Tr.leaf (AV.bool !Bool.false) { blks := [], c := 0 }) Tr.dead)))))))))))
                      Tr.dead)
                    (Tr.leaf (AV.bool Bool.true) { blks := [], c := 0 }))
                  (Tr.leaf (AV.bool Bool.true) { blks := [], c := 0 }))
                (Tr.leaf (AV.bool Bool.true) { blks := [], c := 0 }))))
          Tr.dead)
        (Tr.leaf (AV.bool Bool.true) { blks := [], c := 0 }))
      (Tr.leaf (AV.bool Bool.true) { blks := [], c := 0 }))
    (Tr.leaf (AV.bool Bool.true) { blks := [], c := 0 })) := by kernel_rfl
theorem fs03 (a b : I) : evW cxD keeps 12 5 [.agg [.int .i64 a.1, .int .i64 a.2], .agg [.int .i64 b.1, .int .i64 b.2], .int .i64 0, .int .i64 3] (WT.ask 0 (WT.ask 11 (WT.ask 14 WT.auto WT.cut) (WT.ask 5 (WT.ask 2 (WT.ask 5 (WT.ask 2 (WT.ask 7 WT.auto (WT.ask 2 WT.auto WT.cut)) WT.cut) WT.auto) WT.auto) WT.auto)) (WT.ask 5 (WT.ask 2 (WT.ask 5 (WT.ask 2 (WT.ask 5 WT.auto (WT.ask 1 (WT.ask 14 WT.cut (WT.ask 2 WT.auto WT.cut)) (WT.ask 5 (WT.ask 2 (WT.ask 5 (WT.ask 2 (WT.ask 7 WT.auto (WT.ask 2 WT.cut (WT.ask 2 WT.cut (WT.ask 81 WT.cut (WT.ask 362 WT.cut (WT.ask 5 WT.cut (WT.ask 3 WT.cut (WT.ask 0 WT.cut (WT.ask 8 WT.cut (WT.ask 0 WT.cut (WT.ask 15 WT.auto WT.cut))))))))))) WT.cut) WT.auto) WT.auto) WT.auto))) WT.cut) WT.auto) WT.auto) WT.auto)) =
  Tr.node (a.fst == 1 && a.snd == 0)
  (Tr.node (b.fst == 1 && b.snd == 0) (Tr.node (decide (a.fst > a.snd)) (Tr.leaf (AV.bool Bool.true) { blks := [], c := 0 }) Tr.dead)
    (Tr.node (decide (b.fst ≤ b.snd))
      (Tr.node (decide (b.fst ≥ -2147483648))
        (Tr.node (decide (b.fst ≤ 2147483647))
          (Tr.node (decide (b.snd ≥ -2147483648))
            (Tr.node (!decide (b.snd ≤ 2147483647)) (Tr.leaf (AV.bool Bool.true) { blks := [], c := 0 })
              (Tr.node (decide (a.fst > a.snd)) (Tr.leaf (AV.bool Bool.true) { blks := [], c := 0 }) Tr.dead))
            Tr.dead)
          (Tr.leaf (AV.bool Bool.true) { blks := [], c := 0 }))
        (Tr.leaf (AV.bool Bool.true) { blks := [], c := 0 }))
      (Tr.leaf (AV.bool Bool.true) { blks := [], c := 0 })))
  (Tr.node (decide (a.fst ≤ a.snd))
    (Tr.node (decide (a.fst ≥ -2147483648))
      (Tr.node (decide (a.fst ≤ 2147483647))
        (Tr.node (decide (a.snd ≥ -2147483648))
          (Tr.node (!decide (a.snd ≤ 2147483647)) (Tr.leaf (AV.bool Bool.true) { blks := [], c := 0 })
            (Tr.node (b.fst == 1 && b.snd == 0)
              (Tr.node (decide (a.fst > a.snd)) Tr.dead
                (Tr.node (decide (b.fst > b.snd)) (Tr.leaf (AV.bool Bool.true) { blks := [], c := 0 }) Tr.dead))
              (Tr.node (decide (b.fst ≤ b.snd))
                (Tr.node (decide (b.fst ≥ -2147483648))
                  (Tr.node (decide (b.fst ≤ 2147483647))
                    (Tr.node (decide (b.snd ≥ -2147483648))
                      (Tr.node (!decide (b.snd ≤ 2147483647)) (Tr.leaf (AV.bool Bool.true) { blks := [], c := 0 })
                        (Tr.node (decide (a.fst > a.snd)) Tr.dead
                          (Tr.node (decide (b.fst > b.snd)) Tr.dead
                            (Tr.node (!(0 == 0 && (Bool.false == Bool.false && (0 == 0 && (0 == 0 && (a.fst == a.fst && a.snd == a.snd)))))) Tr.dead
                              (Tr.node (decide (b.fst > b.snd)) Tr.dead
                                (Tr.node (decide (a.fst > a.snd)) Tr.dead
                                  (Tr.node (decide (b.fst > b.snd)) Tr.dead
                                    (Tr.node (decide (a.fst > a.snd)) Tr.dead
                                      (Tr.node (decide (a.fst > a.snd)) Tr.dead
                                        (Tr.node (decide (b.fst > b.snd)) Tr.dead
                                          (Tr.node
                                            (((if b.fst < a.fst then b.fst else a.fst) == if b.fst < a.fst then b.fst else a.fst) &&
                                              (if b.snd > a.snd then b.snd else a.snd) == if b.snd > a.snd then b.snd else a.snd)
                                            (Tr.leaf (AV.bool !Bool.false) { blks := [], c := 0 }) Tr.dead)))))))))))
                      Tr.dead)
                    (Tr.leaf (AV.bool Bool.true) { blks := [], c := 0 }))
                  (Tr.leaf (AV.bool Bool.true) { blks := [], c := 0 }))
                (Tr.leaf (AV.bool Bool.true) { blks := [], c := 0 }))))
          Tr.dead)
        (Tr.leaf (AV.bool Bool.true) { blks := [], c := 0 }))
      (Tr.leaf (AV.bool Bool.true) { blks := [], c := 0 }))
    (Tr.leaf (AV.bool Bool.true) { blks := [], c := 0 })) := by kernel_rfl
theorem fs10 (a b : I) : evW cxD keeps 12 5 [.agg [.int .i64 a.1, .int .i64 a.2], .agg [.int .i64 b.1, .int .i64 b.2], .int .i64 1, .int .i64 0] (WT.ask 0 (WT.ask 11 (WT.ask 14 WT.auto WT.cut) (WT.ask 5 (WT.ask 2 (WT.ask 5 (WT.ask 2 (WT.ask 7 WT.auto (WT.ask 2 WT.auto WT.cut)) WT.cut) WT.auto) WT.auto) WT.auto)) (WT.ask 5 (WT.ask 2 (WT.ask 5 (WT.ask 2 (WT.ask 5 WT.auto (WT.ask 1 (WT.ask 14 WT.cut (WT.ask 2 WT.auto WT.cut)) (WT.ask 5 (WT.ask 2 (WT.ask 5 (WT.ask 2 (WT.ask 7 WT.auto (WT.ask 2 WT.cut (WT.ask 2 WT.cut (WT.ask 81 WT.cut (WT.ask 362 WT.cut (WT.ask 5 WT.cut (WT.ask 3 WT.cut (WT.ask 0 WT.cut (WT.ask 8 WT.cut (WT.ask 0 WT.cut (WT.ask 15 WT.auto WT.cut))))))))))) WT.cut) WT.auto) WT.auto) WT.auto))) WT.cut) WT.auto) WT.auto) WT.auto)) =
  Tr.node (a.fst == 1 && a.snd == 0)
  (Tr.node (b.fst == 1 && b.snd == 0) (Tr.node (decide (a.fst > a.snd)) (Tr.leaf (AV.bool Bool.true) { blks := [], c := 0 }) Tr.dead)
    (Tr.node (decide (b.fst ≤ b.snd))
      (Tr.node (decide (b.fst ≥ -2147483648))
        (Tr.node (decide (b.fst ≤ 2147483647))
          (Tr.node (decide (b.snd ≥ -2147483648))
            (Tr.node (!decide (b.snd ≤ 2147483647)) (Tr.leaf (AV.bool Bool.true) { blks := [], c := 0 })
              (Tr.node (decide (a.fst > a.snd)) (Tr.leaf (AV.bool Bool.true) { blks := [], c := 0 }) Tr.dead))
            Tr.dead)
          (Tr.leaf (AV.bool Bool.true) { blks := [], c := 0 }))
        (Tr.leaf (AV.bool Bool.true) { blks := [], c := 0 }))
      (Tr.leaf (AV.bool Bool.true) { blks := [], c := 0 })))
  (Tr.node (decide (a.fst ≤ a.snd))
    (Tr.node (decide (a.fst ≥ -2147483648))
      (Tr.node (decide (a.fst ≤ 2147483647))
        (Tr.node (decide (a.snd ≥ -2147483648))
          (Tr.node (!decide (a.snd ≤ 2147483647)) (Tr.leaf (AV.bool Bool.true) { blks := [], c := 0 })
            (Tr.node (b.fst == 1 && b.snd == 0)
              (Tr.node (decide (a.fst > a.snd)) Tr.dead
                (Tr.node (decide (b.fst > b.snd)) (Tr.leaf (AV.bool Bool.true) { blks := [], c := 0 }) Tr.dead))
              (Tr.node (decide (b.fst ≤ b.snd))
                (Tr.node (decide (b.fst ≥ -2147483648))
                  (Tr.node (decide (b.fst ≤ 2147483647))
                    (Tr.node (decide (b.snd ≥ -2147483648))
                      (Tr.node (!decide (b.snd ≤ 2147483647)) (Tr.leaf (AV.bool Bool.true) { blks := [], c := 0 })
                        (Tr.node (decide (a.fst > a.snd)) Tr.dead
                          (Tr.node (decide (b.fst > b.snd)) Tr.dead
                            (Tr.node (!(0 == 0 && (Bool.false == Bool.false && (0 == 0 && (1 == 1 && (a.fst == a.fst && a.snd == a.snd)))))) Tr.dead
                              (Tr.node (decide (b.fst > b.snd)) Tr.dead
                                (Tr.node (decide (a.fst > a.snd)) Tr.dead
                                  (Tr.node (decide (b.fst > b.snd)) Tr.dead
                                    (Tr.node (decide (a.fst > a.snd)) Tr.dead
                                      (Tr.node (decide (a.fst > a.snd)) Tr.dead
                                        (Tr.node (decide (b.fst > b.snd)) Tr.dead
                                          (Tr.node
                                            (((if b.fst < a.fst then b.fst else a.fst) == if b.fst < a.fst then b.fst else a.fst) &&
                                              (if b.snd > a.snd then b.snd else a.snd) == if b.snd > a.snd then b.snd else a.snd)
                                            (Tr.leaf (AV.bool !Bool.false) { blks := [], c := 0 }) Tr.dead)))))))))))
                      Tr.dead)
                    (Tr.leaf (AV.bool Bool.true) { blks := [], c := 0 }))
                  (Tr.leaf (AV.bool Bool.true) { blks := [], c := 0 }))
                (Tr.leaf (AV.bool Bool.true) { blks := [], c := 0 }))))
          Tr.dead)
        (Tr.leaf (AV.bool Bool.true) { blks := [], c := 0 }))
      (Tr.leaf (AV.bool Bool.true) { blks := [], c := 0 }))
    (Tr.leaf (AV.bool Bool.true) { blks := [], c := 0 })) := by kernel_rfl
theorem fs11 (a b : I) : evW cxD keeps 12 5 [.agg [.int .i64 a.1, .int .i64 a.2], .agg [.int .i64 b.1, .int .i64 b.2], .int .i64 1, .int .i64 1] (WT.ask 0 (WT.ask 11 (WT.ask 14 WT.auto WT.cut) (WT.ask 5 (WT.ask 2 (WT.ask 5 (WT.ask 2 (WT.ask 7 WT.auto (WT.ask 2 WT.auto WT.cut)) WT.cut) WT.auto) WT.auto) WT.auto)) (WT.ask 5 (WT.ask 2 (WT.ask 5 (WT.ask 2 (WT.ask 5 WT.auto (WT.ask 1 (WT.ask 14 WT.cut (WT.ask 2 WT.auto WT.cut)) (WT.ask 5 (WT.ask 2 (WT.ask 5 (WT.ask 2 (WT.ask 7 WT.auto (WT.ask 2 WT.cut (WT.ask 2 WT.cut (WT.ask 81 WT.cut (WT.ask 361 WT.cut (WT.ask 27 WT.auto WT.cut)))))) WT.cut) WT.auto) WT.auto) WT.auto))) WT.cut) WT.auto) WT.auto) WT.auto)) =
  Tr.node (a.fst == 1 && a.snd == 0)
  (Tr.node (b.fst == 1 && b.snd == 0) (Tr.node (decide (a.fst > a.snd)) (Tr.leaf (AV.bool Bool.true) { blks := [], c := 0 }) Tr.dead)
    (Tr.node (decide (b.fst ≤ b.snd))
      (Tr.node (decide (b.fst ≥ -2147483648))
        (Tr.node (decide (b.fst ≤ 2147483647))
          (Tr.node (decide (b.snd ≥ -2147483648))
            (Tr.node (!decide (b.snd ≤ 2147483647)) (Tr.leaf (AV.bool Bool.true) { blks := [], c := 0 })
              (Tr.node (decide (a.fst > a.snd)) (Tr.leaf (AV.bool Bool.true) { blks := [], c := 0 }) Tr.dead))
            Tr.dead)
          (Tr.leaf (AV.bool Bool.true) { blks := [], c := 0 }))
        (Tr.leaf (AV.bool Bool.true) { blks := [], c := 0 }))
      (Tr.leaf (AV.bool Bool.true) { blks := [], c := 0 })))
  (Tr.node (decide (a.fst ≤ a.snd))
    (Tr.node (decide (a.fst ≥ -2147483648))
      (Tr.node (decide (a.fst ≤ 2147483647))
        (Tr.node (decide (a.snd ≥ -2147483648))
          (Tr.node (!decide (a.snd ≤ 2147483647)) (Tr.leaf (AV.bool Bool.true) { blks := [], c := 0 })
            (Tr.node (b.fst == 1 && b.snd == 0)
              (Tr.node (decide (a.fst > a.snd)) Tr.dead
                (Tr.node (decide (b.fst > b.snd)) (Tr.leaf (AV.bool Bool.true) { blks := [], c := 0 }) Tr.dead))
              (Tr.node (decide (b.fst ≤ b.snd))
                (Tr.node (decide (b.fst ≥ -2147483648))
                  (Tr.node (decide (b.fst ≤ 2147483647))
                    (Tr.node (decide (b.snd ≥ -2147483648))
                      (Tr.node (!decide (b.snd ≤ 2147483647)) (Tr.leaf (AV.bool Bool.true) { blks := [], c := 0 })
                        (Tr.node (decide (a.fst > a.snd)) Tr.dead
                          (Tr.node (decide (b.fst > b.snd)) Tr.dead
                            (Tr.node (!(0 == 0 && (Bool.false == Bool.false && (0 == 0 && (1 == 1 && (a.fst == a.fst && a.snd == a.snd)))))) Tr.dead
                              (Tr.node (decide (a.fst > a.snd)) Tr.dead
                                (Tr.node (a.fst == a.fst && a.snd == a.snd) (Tr.leaf (AV.bool !Bool.false) { blks := [], c := 0 }) Tr.dead))))))
                      Tr.dead)
                    (Tr.leaf (AV.bool Bool.true) { blks := [], c := 0 }))
                  (Tr.leaf (AV.bool Bool.true) { blks := [], c := 0 }))
                (Tr.leaf (AV.bool Bool.true) { blks := [], c := 0 }))))
          Tr.dead)
        (Tr.leaf (AV.bool Bool.true) { blks := [], c := 0 }))
      (Tr.leaf (AV.bool Bool.true) { blks := [], c := 0 }))
    (Tr.leaf (AV.bool Bool.true) { blks := [], c := 0 })) := by kernel_rfl
theorem fs12 (a b : I) : evW cxD keeps 12 5 [.agg [.int .i64 a.1, .int .i64 a.2], .agg [.int .i64 b.1, .int .i64 b.2], .int .i64 1, .int .i64 2] (WT.ask 0 (WT.ask 11 (WT.ask 14 WT.auto WT.cut) (WT.ask 5 (WT.ask 2 (WT.ask 5 (WT.ask 2 (WT.ask 7 WT.auto (WT.ask 2 WT.auto WT.cut)) WT.cut) WT.auto) WT.auto) WT.auto)) (WT.ask 5 (WT.ask 2 (WT.ask 5 (WT.ask 2 (WT.ask 5 WT.auto (WT.ask 1 (WT.ask 14 WT.cut (WT.ask 2 WT.auto WT.cut)) (WT.ask 5 (WT.ask 2 (WT.ask 5 (WT.ask 2 (WT.ask 7 WT.auto (WT.ask 2 WT.cut (WT.ask 2 WT.cut (WT.ask 81 WT.cut (WT.ask 362 WT.cut (WT.ask 5 WT.cut (WT.ask 3 WT.cut (WT.ask 0 WT.cut (WT.ask 8 WT.cut (WT.ask 0 WT.cut (WT.ask 15 WT.auto WT.cut))))))))))) WT.cut) WT.auto) WT.auto) WT.auto))) WT.cut) WT.auto) WT.auto) WT.auto)) =
  Tr.node (a.fst == 1 && a.snd == 0)
  (Tr.node (b.fst == 1 && b.snd == 0) (Tr.node (decide (a.fst > a.snd)) (Tr.leaf (AV.bool Bool.true) { blks := [], c := 0 }) Tr.dead)
    (Tr.node (decide (b.fst ≤ b.snd))
      (Tr.node (decide (b.fst ≥ -2147483648))
        (Tr.node (decide (b.fst ≤ 2147483647))
          (Tr.node (decide (b.snd ≥ -2147483648))
            (Tr.node (!decide (b.snd ≤ 2147483647)) (Tr.leaf (AV.bool Bool.true) { blks := [], c := 0 })
              (Tr.node (decide (a.fst > a.snd)) (Tr.leaf (AV.bool Bool.true) { blks := [], c := 0 }) Tr.dead))
            Tr.dead)
          (Tr.leaf (AV.bool Bool.true) { blks := [], c := 0 }))
        (Tr.leaf (AV.bool Bool.true) { blks := [], c := 0 }))
      (Tr.leaf (AV.bool Bool.true) { blks := [], c := 0 })))
  (Tr.node (decide (a.fst ≤ a.snd))
    (Tr.node (decide (a.fst ≥ -2147483648))
      (Tr.node (decide (a.fst ≤ 2147483647))
        (Tr.node (decide (a.snd ≥ -2147483648))
          (Tr.node (!decide (a.snd ≤ 2147483647)) (Tr.leaf (AV.bool Bool.true) { blks := [], c := 0 })
            (Tr.node (b.fst == 1 && b.snd == 0)
              (Tr.node (decide (a.fst > a.snd)) Tr.dead
                (Tr.node (decide (b.fst > b.snd)) (Tr.leaf (AV.bool Bool.true) { blks := [], c := 0 }) Tr.dead))
              (Tr.node (decide (b.fst ≤ b.snd))
                (Tr.node (decide (b.fst ≥ -2147483648))
                  (Tr.node (decide (b.fst ≤ 2147483647))
                    (Tr.node (decide (b.snd ≥ -2147483648))
                      (Tr.node (!decide (b.snd ≤ 2147483647)) (Tr.leaf (AV.bool Bool.true) { blks := [], c := 0 })
                        (Tr.node (decide (a.fst > a.snd)) Tr.dead
                          (Tr.node (decide (b.fst > b.snd)) Tr.dead
                            (Tr.node (!(0 == 0 && (Bool.false == Bool.false && (0 == 0 && (1 == 1 && (a.fst == a.fst && a.snd == a.snd)))))) Tr.dead
                              (Tr.node (decide (b.fst > b.snd)) Tr.dead
                                (Tr.node (decide (a.fst > a.snd)) Tr.dead
                                  (Tr.node (decide (b.fst > b.snd)) Tr.dead
                                    (Tr.node (decide (a.fst > a.snd)) Tr.dead
                                      (Tr.node (decide (a.fst > a.snd)) Tr.dead
                                        (Tr.node (decide (b.fst > b.snd)) Tr.dead
                                          (Tr.node
                                            (((if b.fst < a.fst then b.fst else a.fst) == if b.fst < a.fst then b.fst else a.fst) &&
                                              (if b.snd > a.snd then b.snd else a.snd) == if b.snd > a.snd then b.snd else a.snd)
                                            (Tr.leaf (AV.bool !Bool.false) { blks := [], c := 0 }) Tr.dead)))))))))))
                      Tr.dead)
                    (Tr.leaf (AV.bool Bool.true) { blks := [], c := 0 }))
                  (Tr.leaf (AV.bool Bool.true) { blks := [], c := 0 }))
                (Tr.leaf (AV.bool Bool.true) { blks := [], c := 0 }))))
          Tr.dead)
        (Tr.leaf (AV.bool Bool.true) { blks := [], c := 0 }))
      (Tr.leaf (AV.bool Bool.true) { blks := [], c := 0 }))
    (Tr.leaf (AV.bool Bool.true) { blks := [], c := 0 })) := by kernel_rfl
theorem fs13 (a b : I) : evW cxD keeps 12 5 [.agg [.int .i64 a.1, .int .i64 a.2], .agg [.int .i64 b.1, .int .i64 b.2], .int .i64 1, .int .i64 3] (WT.ask 0 (WT.ask 11 (WT.ask 14 WT.auto WT.cut) (WT.ask 5 (WT.ask 2 (WT.ask 5 (WT.ask 2 (WT.ask 7 WT.auto (WT.ask 2 WT.auto WT.cut)) WT.cut) WT.auto) WT.auto) WT.auto)) (WT.ask 5 (WT.ask 2 (WT.ask 5 (WT.ask 2 (WT.ask 5 WT.auto (WT.ask 1 (WT.ask 14 WT.cut (WT.ask 2 WT.auto WT.cut)) (WT.ask 5 (WT.ask 2 (WT.ask 5 (WT.ask 2 (WT.ask 7 WT.auto (WT.ask 2 WT.cut (WT.ask 2 WT.cut (WT.ask 81 WT.cut (WT.ask 361 WT.cut (WT.ask 27 WT.auto WT.cut)))))) WT.cut) WT.auto) WT.auto) WT.auto))) WT.cut) WT.auto) WT.auto) WT.auto)) =
  Tr.node (a.fst == 1 && a.snd == 0)
  (Tr.node (b.fst == 1 && b.snd == 0) (Tr.node (decide (a.fst > a.snd)) (Tr.leaf (AV.bool Bool.true) { blks := [], c := 0 }) Tr.dead)
    (Tr.node (decide (b.fst ≤ b.snd))
      (Tr.node (decide (b.fst ≥ -2147483648))
        (Tr.node (decide (b.fst ≤ 2147483647))
          (Tr.node (decide (b.snd ≥ -2147483648))
            (Tr.node (!decide (b.snd ≤ 2147483647)) (Tr.leaf (AV.bool Bool.true) { blks := [], c := 0 })
              (Tr.node (decide (a.fst > a.snd)) (Tr.leaf (AV.bool Bool.true) { blks := [], c := 0 }) Tr.dead))
            Tr.dead)
          (Tr.leaf (AV.bool Bool.true) { blks := [], c := 0 }))
        (Tr.leaf (AV.bool Bool.true) { blks := [], c := 0 }))
      (Tr.leaf (AV.bool Bool.true) { blks := [], c := 0 })))
  (Tr.node (decide (a.fst ≤ a.snd))
    (Tr.node (decide (a.fst ≥ -2147483648))
      (Tr.node (decide (a.fst ≤ 2147483647))
        (Tr.node (decide (a.snd ≥ -2147483648))
          (Tr.node (!decide (a.snd ≤ 2147483647)) (Tr.leaf (AV.bool Bool.true) { blks := [], c := 0 })
            (Tr.node (b.fst == 1 && b.snd == 0)
              (Tr.node (decide (a.fst > a.snd)) Tr.dead
                (Tr.node (decide (b.fst > b.snd)) (Tr.leaf (AV.bool Bool.true) { blks := [], c := 0 }) Tr.dead))
              (Tr.node (decide (b.fst ≤ b.snd))
                (Tr.node (decide (b.fst ≥ -2147483648))
                  (Tr.node (decide (b.fst ≤ 2147483647))
                    (Tr.node (decide (b.snd ≥ -2147483648))
                      (Tr.node (!decide (b.snd ≤ 2147483647)) (Tr.leaf (AV.bool Bool.true) { blks := [], c := 0 })
                        (Tr.node (decide (a.fst > a.snd)) Tr.dead
                          (Tr.node (decide (b.fst > b.snd)) Tr.dead
                            (Tr.node (!(0 == 0 && (Bool.false == Bool.false && (0 == 0 && (1 == 1 && (a.fst == a.fst && a.snd == a.snd)))))) Tr.dead
                              (Tr.node (decide (a.fst > a.snd)) Tr.dead
                                (Tr.node (a.fst == a.fst && a.snd == a.snd) (Tr.leaf (AV.bool !Bool.false) { blks := [], c := 0 }) Tr.dead))))))
                      Tr.dead)
                    (Tr.leaf (AV.bool Bool.true) { blks := [], c := 0 }))
                  (Tr.leaf (AV.bool Bool.true) { blks := [], c := 0 }))
                (Tr.leaf (AV.bool Bool.true) { blks := [], c := 0 }))))
          Tr.dead)
        (Tr.leaf (AV.bool Bool.true) { blks := [], c := 0 }))
      (Tr.leaf (AV.bool Bool.true) { blks := [], c := 0 }))
    (Tr.leaf (AV.bool Bool.true) { blks := [], c := 0 })) := by kernel_rfl
theorem fs20 (a b : I) : evW cxD keeps 12 5 [.agg [.int .i64 a.1, .int .i64 a.2], .agg [.int .i64 b.1, .int .i64 b.2], .int .i64 2, .int .i64 0] (WT.ask 0 (WT.ask 11 (WT.ask 14 WT.auto WT.cut) (WT.ask 5 (WT.ask 2 (WT.ask 5 (WT.ask 2 (WT.ask 7 WT.auto (WT.ask 2 WT.auto WT.cut)) WT.cut) WT.auto) WT.auto) WT.auto)) (WT.ask 5 (WT.ask 2 (WT.ask 5 (WT.ask 2 (WT.ask 5 WT.auto (WT.ask 1 (WT.ask 14 WT.cut (WT.ask 2 WT.auto WT.cut)) (WT.ask 5 (WT.ask 2 (WT.ask 5 (WT.ask 2 (WT.ask 7 WT.auto (WT.ask 2 WT.cut (WT.ask 2 WT.cut (WT.ask 81 WT.cut (WT.ask 362 WT.cut (WT.ask 5 WT.cut (WT.ask 3 WT.cut (WT.ask 0 WT.cut (WT.ask 8 WT.cut (WT.ask 0 WT.cut (WT.ask 15 WT.auto WT.cut))))))))))) WT.cut) WT.auto) WT.auto) WT.auto))) WT.cut) WT.auto) WT.auto) WT.auto)) =
  Tr.node (a.fst == 1 && a.snd == 0)
  (Tr.node (b.fst == 1 && b.snd == 0) (Tr.node (decide (a.fst > a.snd)) (Tr.leaf (AV.bool Bool.true) { blks := [], c := 0 }) Tr.dead)
    (Tr.node (decide (b.fst ≤ b.snd))
      (Tr.node (decide (b.fst ≥ -2147483648))
        (Tr.node (decide (b.fst ≤ 2147483647))
          (Tr.node (decide (b.snd ≥ -2147483648))
            (Tr.node (!decide (b.snd ≤ 2147483647)) (Tr.leaf (AV.bool Bool.true) { blks := [], c := 0 })
              (Tr.node (decide (a.fst > a.snd)) (Tr.leaf (AV.bool Bool.true) { blks := [], c := 0 }) Tr.dead))
            Tr.dead)
          (Tr.leaf (AV.bool Bool.true) { blks := [], c := 0 }))
        (Tr.leaf (AV.bool Bool.true) { blks := [], c := 0 }))
      (Tr.leaf (AV.bool Bool.true) { blks := [], c := 0 })))
  (Tr.node (decide (a.fst ≤ a.snd))
    (Tr.node (decide (a.fst ≥ -2147483648))
      (Tr.node (decide (a.fst ≤ 2147483647))
        (Tr.node (decide (a.snd ≥ -2147483648))
          (Tr.node (!decide (a.snd ≤ 2147483647)) (Tr.leaf (AV.bool Bool.true) { blks := [], c := 0 })
            (Tr.node (b.fst == 1 && b.snd == 0)
              (Tr.node (decide (a.fst > a.snd)) Tr.dead
                (Tr.node (decide (b.fst > b.snd)) (Tr.leaf (AV.bool Bool.true) { blks := [], c := 0 }) Tr.dead))
              (Tr.node (decide (b.fst ≤ b.snd))
                (Tr.node (decide (b.fst ≥ -2147483648))
                  (Tr.node (decide (b.fst ≤ 2147483647))
                    (Tr.node (decide (b.snd ≥ -2147483648))
                      (Tr.node (!decide (b.snd ≤ 2147483647)) (Tr.leaf (AV.bool Bool.true) { blks := [], c := 0 })
                        (Tr.node (decide (a.fst > a.snd)) Tr.dead
                          (Tr.node (decide (b.fst > b.snd)) Tr.dead
                            (Tr.node (!(0 == 0 && (Bool.false == Bool.false && (0 == 0 && (2 == 2 && (a.fst == a.fst && a.snd == a.snd)))))) Tr.dead
                              (Tr.node (decide (b.fst > b.snd)) Tr.dead
                                (Tr.node (decide (a.fst > a.snd)) Tr.dead
                                  (Tr.node (decide (b.fst > b.snd)) Tr.dead
                                    (Tr.node (decide (a.fst > a.snd)) Tr.dead
                                      (Tr.node (decide (a.fst > a.snd)) Tr.dead
                                        (Tr.node (decide (b.fst > b.snd)) Tr.dead
                                          (Tr.node
                                            (((if b.fst < a.fst then b.fst else a.fst) == if b.fst < a.fst then b.fst else a.fst) &&
                                              (if b.snd > a.snd then b.snd else a.snd) == if b.snd > a.snd then b.snd else a.snd)
                                            (Tr.leaf (AV.bool !Bool.false) { blks := [], c := 0 }) Tr.dead)))))))))))
                      Tr.dead)
                    (Tr.leaf (AV.bool Bool.true) { blks := [], c := 0 }))
                  (Tr.leaf (AV.bool Bool.true) { blks := [], c := 0 }))
                (Tr.leaf (AV.bool Bool.true) { blks := [], c := 0 }))))
          Tr.dead)
        (Tr.leaf (AV.bool Bool.true) { blks := [], c := 0 }))
      (Tr.leaf (AV.bool Bool.true) { blks := [], c := 0 }))
    (Tr.leaf (AV.bool Bool.true) { blks := [], c := 0 })) := by kernel_rfl
theorem fs21 (a b : I) : evW cxD keeps 12 5 [.agg [.int .i64 a.1, .int .i64 a.2], .agg [.int .i64 b.1, .int .i64 b.2], .int .i64 2, .int .i64 1] (WT.ask 0 (WT.ask 11 (WT.ask 14 WT.auto WT.cut) (WT.ask 5 (WT.ask 2 (WT.ask 5 (WT.ask 2 (WT.ask 7 WT.auto (WT.ask 2 WT.auto WT.cut)) WT.cut) WT.auto) WT.auto) WT.auto)) (WT.ask 5 (WT.ask 2 (WT.ask 5 (WT.ask 2 (WT.ask 5 WT.auto (WT.ask 1 (WT.ask 14 WT.cut (WT.ask 2 WT.auto WT.cut)) (WT.ask 5 (WT.ask 2 (WT.ask 5 (WT.ask 2 (WT.ask 7 WT.auto (WT.ask 2 WT.cut (WT.ask 2 WT.cut (WT.ask 81 WT.cut (WT.ask 362 WT.cut (WT.ask 5 WT.cut (WT.ask 3 WT.cut (WT.ask 0 WT.cut (WT.ask 8 WT.cut (WT.ask 0 WT.cut (WT.ask 15 WT.auto WT.cut))))))))))) WT.cut) WT.auto) WT.auto) WT.auto))) WT.cut) WT.auto) WT.auto) WT.auto)) =
  Tr.node (a.fst == 1 && a.snd == 0)
  (Tr.node (b.fst == 1 && b.snd == 0) (Tr.node (decide (a.fst > a.snd)) (Tr.leaf (AV.bool Bool.true) { blks := [], c := 0 }) Tr.dead)
    (Tr.node (decide (b.fst ≤ b.snd))
      (Tr.node (decide (b.fst ≥ -2147483648))
        (Tr.node (decide (b.fst ≤ 2147483647))
          (Tr.node (decide (b.snd ≥ -2147483648))
            (Tr.node (!decide (b.snd ≤ 2147483647)) (Tr.leaf (AV.bool Bool.true) { blks := [], c := 0 })
              (Tr.node (decide (a.fst > a.snd)) (Tr.leaf (AV.bool Bool.true) { blks := [], c := 0 }) Tr.dead))
            Tr.dead)
          (Tr.leaf (AV.bool Bool.true) { blks := [], c := 0 }))
        (Tr.leaf (AV.bool Bool.true) { blks := [], c := 0 }))
      (Tr.leaf (AV.bool Bool.true) { blks := [], c := 0 })))
  (Tr.node (decide (a.fst ≤ a.snd))
    (Tr.node (decide (a.fst ≥ -2147483648))
      (Tr.node (decide (a.fst ≤ 2147483647))
        (Tr.node (decide (a.snd ≥ -2147483648))
          (Tr.node (!decide (a.snd ≤ 2147483647)) (Tr.leaf (AV.bool Bool.true) { blks := [], c := 0 })
            (Tr.node (b.fst == 1 && b.snd == 0)
              (Tr.node (decide (a.fst > a.snd)) Tr.dead
                (Tr.node (decide (b.fst > b.snd)) (Tr.leaf (AV.bool Bool.true) { blks := [], c := 0 }) Tr.dead))
              (Tr.node (decide (b.fst ≤ b.snd))
                (Tr.node (decide (b.fst ≥ -2147483648))
                  (Tr.node (decide (b.fst ≤ 2147483647))
                    (Tr.node (decide (b.snd ≥ -2147483648))
                      (Tr.node (!decide (b.snd ≤ 2147483647)) (Tr.leaf (AV.bool Bool.true) { blks := [], c := 0 })
                        (Tr.node (decide (a.fst > a.snd)) Tr.dead
                          (Tr.node (decide (b.fst > b.snd)) Tr.dead
                            (Tr.node (!(0 == 0 && (Bool.false == Bool.false && (0 == 0 && (2 == 2 && (a.fst == a.fst && a.snd == a.snd)))))) Tr.dead
                              (Tr.node (decide (b.fst > b.snd)) Tr.dead
                                (Tr.node (decide (a.fst > a.snd)) Tr.dead
                                  (Tr.node (decide (b.fst > b.snd)) Tr.dead
                                    (Tr.node (decide (a.fst > a.snd)) Tr.dead
                                      (Tr.node (decide (a.fst > a.snd)) Tr.dead
                                        (Tr.node (decide (b.fst > b.snd)) Tr.dead
                                          (Tr.node
                                            (((if b.fst < a.fst then b.fst else a.fst) == if b.fst < a.fst then b.fst else a.fst) &&
                                              (if b.snd > a.snd then b.snd else a.snd) == if b.snd > a.snd then b.snd else a.snd)
                                            (Tr.leaf (AV.bool !Bool.false) { blks := [], c := 0 }) Tr.dead)))))))))))
                      Tr.dead)
                    (Tr.leaf (AV.bool Bool.true) { blks := [], c := 0 }))
                  (Tr.leaf (AV.bool Bool.true) { blks := [], c := 0 }))
                (Tr.leaf (AV.bool Bool.true) { blks := [], c := 0 }))))
          Tr.dead)
        (Tr.leaf (AV.bool Bool.true) { blks := [], c := 0 }))
      (Tr.leaf (AV.bool Bool.true) { blks := [], c := 0 }))
    (Tr.leaf (AV.bool Bool.true) { blks := [], c := 0 })) := by kernel_rfl
theorem fs22 (a b : I) : evW cxD keeps 12 5 [.agg [.int .i64 a.1, .int .i64 a.2], .agg [.int .i64 b.1, .int .i64 b.2], .int .i64 2, .int .i64 2] (WT.ask 0 (WT.ask 11 (WT.ask 14 WT.auto WT.cut) (WT.ask 5 (WT.ask 2 (WT.ask 5 (WT.ask 2 (WT.ask 7 WT.auto (WT.ask 2 WT.auto WT.cut)) WT.cut) WT.auto) WT.auto) WT.auto)) (WT.ask 5 (WT.ask 2 (WT.ask 5 (WT.ask 2 (WT.ask 5 WT.auto (WT.ask 1 (WT.ask 14 WT.cut (WT.ask 2 WT.auto WT.cut)) (WT.ask 5 (WT.ask 2 (WT.ask 5 (WT.ask 2 (WT.ask 7 WT.auto (WT.ask 2 WT.cut (WT.ask 2 WT.cut (WT.ask 81 WT.cut (WT.ask 361 WT.cut (WT.ask 27 WT.auto WT.cut)))))) WT.cut) WT.auto) WT.auto) WT.auto))) WT.cut) WT.auto) WT.auto) WT.auto)) =
  Tr.node (a.fst == 1 && a.snd == 0)
  (Tr.node (b.fst == 1 && b.snd == 0) (Tr.node (decide (a.fst > a.snd)) (Tr.leaf (AV.bool Bool.true) { blks := [], c := 0 }) Tr.dead)
    (Tr.node (decide (b.fst ≤ b.snd))
      (Tr.node (decide (b.fst ≥ -2147483648))
        (Tr.node (decide (b.fst ≤ 2147483647))
          (Tr.node (decide (b.snd ≥ -2147483648))
            (Tr.node (!decide (b.snd ≤ 2147483647)) (Tr.leaf (AV.bool Bool.true) { blks := [], c := 0 })
              (Tr.node (decide (a.fst > a.snd)) (Tr.leaf (AV.bool Bool.true) { blks := [], c := 0 }) Tr.dead))
            Tr.dead)
          (Tr.leaf (AV.bool Bool.true) { blks := [], c := 0 }))
        (Tr.leaf (AV.bool Bool.true) { blks := [], c := 0 }))
      (Tr.leaf (AV.bool Bool.true) { blks := [], c := 0 })))
  (Tr.node (decide (a.fst ≤ a.snd))
    (Tr.node (decide (a.fst ≥ -2147483648))
      (Tr.node (decide (a.fst ≤ 2147483647))
        (Tr.node (decide (a.snd ≥ -2147483648))
          (Tr.node (!decide (a.snd ≤ 2147483647)) (Tr.leaf (AV.bool Bool.true) { blks := [], c := 0 })
            (Tr.node (b.fst == 1 && b.snd == 0)
              (Tr.node (decide (a.fst > a.snd)) Tr.dead
                (Tr.node (decide (b.fst > b.snd)) (Tr.leaf (AV.bool Bool.true) { blks := [], c := 0 }) Tr.dead))
              (Tr.node (decide (b.fst ≤ b.snd))
                (Tr.node (decide (b.fst ≥ -2147483648))
                  (Tr.node (decide (b.fst ≤ 2147483647))
                    (Tr.node (decide (b.snd ≥ -2147483648))
                      (Tr.node (!decide (b.snd ≤ 2147483647)) (Tr.leaf (AV.bool Bool.true) { blks := [], c := 0 })
                        (Tr.node (decide (a.fst > a.snd)) Tr.dead
                          (Tr.node (decide (b.fst > b.snd)) Tr.dead
                            (Tr.node (!(0 == 0 && (Bool.false == Bool.false && (0 == 0 && (2 == 2 && (a.fst == a.fst && a.snd == a.snd)))))) Tr.dead
                              (Tr.node (decide (a.fst > a.snd)) Tr.dead
                                (Tr.node (a.fst == a.fst && a.snd == a.snd) (Tr.leaf (AV.bool !Bool.false) { blks := [], c := 0 }) Tr.dead))))))
                      Tr.dead)
                    (Tr.leaf (AV.bool Bool.true) { blks := [], c := 0 }))
                  (Tr.leaf (AV.bool Bool.true) { blks := [], c := 0 }))
                (Tr.leaf (AV.bool Bool.true) { blks := [], c := 0 }))))
          Tr.dead)
        (Tr.leaf (AV.bool Bool.true) { blks := [], c := 0 }))
      (Tr.leaf (AV.bool Bool.true) { blks := [], c := 0 }))
    (Tr.leaf (AV.bool Bool.true) { blks := [], c := 0 })) := by kernel_rfl
theorem fs23 (a b : I) : evW cxD keeps 12 5 [.agg [.int .i64 a.1, .int .i64 a.2], .agg [.int .i64 b.1, .int .i64 b.2], .int .i64 2, .int .i64 3] (WT.ask 0 (WT.ask 11 (WT.ask 14 WT.auto WT.cut) (WT.ask 5 (WT.ask 2 (WT.ask 5 (WT.ask 2 (WT.ask 7 WT.auto (WT.ask 2 WT.auto WT.cut)) WT.cut) WT.auto) WT.auto) WT.auto)) (WT.ask 5 (WT.ask 2 (WT.ask 5 (WT.ask 2 (WT.ask 5 WT.auto (WT.ask 1 (WT.ask 14 WT.cut (WT.ask 2 WT.auto WT.cut)) (WT.ask 5 (WT.ask 2 (WT.ask 5 (WT.ask 2 (WT.ask 7 WT.auto (WT.ask 2 WT.cut (WT.ask 2 WT.cut (WT.ask 81 WT.cut (WT.ask 361 WT.cut (WT.ask 27 WT.auto WT.cut)))))) WT.cut) WT.auto) WT.auto) WT.auto))) WT.cut) WT.auto) WT.auto) WT.auto)) =
  Tr.node (a.fst == 1 && a.snd == 0)
  (Tr.node (b.fst == 1 && b.snd == 0) (Tr.node (decide (a.fst > a.snd)) (Tr.leaf (AV.bool Bool.true) { blks := [], c := 0 }) Tr.dead)
    (Tr.node (decide (b.fst ≤ b.snd))
      (Tr.node (decide (b.fst ≥ -2147483648))
        (Tr.node (decide (b.fst ≤ 2147483647))
          (Tr.node (decide (b.snd ≥ -2147483648))
            (Tr.node (!decide (b.snd ≤ 2147483647)) (Tr.leaf (AV.bool Bool.true) { blks := [], c := 0 })
              (Tr.node (decide (a.fst > a.snd)) (Tr.leaf (AV.bool Bool.true) { blks := [], c := 0 }) Tr.dead))
            Tr.dead)
          (Tr.leaf (AV.bool Bool.true) { blks := [], c := 0 }))
        (Tr.leaf (AV.bool Bool.true) { blks := [], c := 0 }))
      (Tr.leaf (AV.bool Bool.true) { blks := [], c := 0 })))
  (Tr.node (decide (a.fst ≤ a.snd))
    (Tr.node (decide (a.fst ≥ -2147483648))
      (Tr.node (decide (a.fst ≤ 2147483647))
        (Tr.node (decide (a.snd ≥ -2147483648))
          (Tr.node (!decide (a.snd ≤ 2147483647)) (Tr.leaf (AV.bool Bool.true) { blks := [], c := 0 })
            (Tr.node (b.fst == 1 && b.snd == 0)
              (Tr.node (decide (a.fst > a.snd)) Tr.dead
                (Tr.node (decide (b.fst > b.snd)) (Tr.leaf (AV.bool Bool.true) { blks := [], c := 0 }) Tr.dead))
              (Tr.node (decide (b.fst ≤ b.snd))
                (Tr.node (decide (b.fst ≥ -2147483648))
                  (Tr.node (decide (b.fst ≤ 2147483647))
                    (Tr.node (decide (b.snd ≥ -2147483648))
                      (Tr.node (!decide (b.snd ≤ 2147483647)) (Tr.leaf (AV.bool Bool.true) { blks := [], c := 0 })
                        (Tr.node (decide (a.fst > a.snd)) Tr.dead
                          (Tr.node (decide (b.fst > b.snd)) Tr.dead
                            (Tr.node (!(0 == 0 && (Bool.false == Bool.false && (0 == 0 && (2 == 2 && (a.fst == a.fst && a.snd == a.snd)))))) Tr.dead
                              (Tr.node (decide (a.fst > a.snd)) Tr.dead
                                (Tr.node (a.fst == a.fst && a.snd == a.snd) (Tr.leaf (AV.bool !Bool.false) { blks := [], c := 0 }) Tr.dead))))))
                      Tr.dead)
                    (Tr.leaf (AV.bool Bool.true) { blks := [], c := 0 }))
                  (Tr.leaf (AV.bool Bool.true) { blks := [], c := 0 }))
                (Tr.leaf (AV.bool Bool.true) { blks := [], c := 0 }))))
          Tr.dead)
        (Tr.leaf (AV.bool Bool.true) { blks := [], c := 0 }))
      (Tr.leaf (AV.bool Bool.true) { blks := [], c := 0 }))
    (Tr.leaf (AV.bool Bool.true) { blks := [], c := 0 })) := by kernel_rfl
theorem fs30 (a b : I) : evW cxD keeps 12 5 [.agg [.int .i64 a.1, .int .i64 a.2], .agg [.int .i64 b.1, .int .i64 b.2], .int .i64 3, .int .i64 0] (WT.ask 0 (WT.ask 11 (WT.ask 14 WT.auto WT.cut) (WT.ask 5 (WT.ask 2 (WT.ask 5 (WT.ask 2 (WT.ask 7 WT.auto (WT.ask 2 WT.auto WT.cut)) WT.cut) WT.auto) WT.auto) WT.auto)) (WT.ask 5 (WT.ask 2 (WT.ask 5 (WT.ask 2 (WT.ask 5 WT.auto (WT.ask 1 (WT.ask 14 WT.cut (WT.ask 2 WT.auto WT.cut)) (WT.ask 5 (WT.ask 2 (WT.ask 5 (WT.ask 2 (WT.ask 7 WT.auto (WT.ask 2 WT.cut (WT.ask 2 WT.cut (WT.ask 81 WT.cut (WT.ask 362 WT.cut (WT.ask 5 WT.cut (WT.ask 3 WT.cut (WT.ask 0 WT.cut (WT.ask 8 WT.cut (WT.ask 0 WT.cut (WT.ask 15 WT.auto WT.cut))))))))))) WT.cut) WT.auto) WT.auto) WT.auto))) WT.cut) WT.auto) WT.auto) WT.auto)) =
  Tr.node (a.fst == 1 && a.snd == 0)
  (Tr.node (b.fst == 1 && b.snd == 0) (Tr.node (decide (a.fst > a.snd)) (Tr.leaf (AV.bool Bool.true) { blks := [], c := 0 }) Tr.dead)
    (Tr.node (decide (b.fst ≤ b.snd))
      (Tr.node (decide (b.fst ≥ -2147483648))
        (Tr.node (decide (b.fst ≤ 2147483647))
          (Tr.node (decide (b.snd ≥ -2147483648))
            (Tr.node (!decide (b.snd ≤ 2147483647)) (Tr.leaf (AV.bool Bool.true) { blks := [], c := 0 })
              (Tr.node (decide (a.fst > a.snd)) (Tr.leaf (AV.bool Bool.true) { blks := [], c := 0 }) Tr.dead))
            Tr.dead)
          (Tr.leaf (AV.bool Bool.true) { blks := [], c := 0 }))
        (Tr.leaf (AV.bool Bool.true) { blks := [], c := 0 }))
      (Tr.leaf (AV.bool Bool.true) { blks := [], c := 0 })))
  (Tr.node (decide (a.fst ≤ a.snd))
    (Tr.node (decide (a.fst ≥ -2147483648))
      (Tr.node (decide (a.fst ≤ 2147483647))
        (Tr.node (decide (a.snd ≥ -2147483648))
          (Tr.node (!decide (a.snd ≤ 2147483647)) (Tr.leaf (AV.bool Bool.true) { blks := [], c := 0 })
            (Tr.node (b.fst == 1 && b.snd == 0)
              (Tr.node (decide (a.fst > a.snd)) Tr.dead
                (Tr.node (decide (b.fst > b.snd)) (Tr.leaf (AV.bool Bool.true) { blks := [], c := 0 }) Tr.dead))
              (Tr.node (decide (b.fst ≤ b.snd))
                (Tr.node (decide (b.fst ≥ -2147483648))
                  (Tr.node (decide (b.fst ≤ 2147483647))
                    (Tr.node (decide (b.snd ≥ -2147483648))
                      (Tr.node (!decide (b.snd ≤ 2147483647)) (Tr.leaf (AV.bool Bool.true) { blks := [], c := 0 })
                        (Tr.node (decide (a.fst > a.snd)) Tr.dead
                          (Tr.node (decide (b.fst > b.snd)) Tr.dead
                            (Tr.node (!(0 == 0 && (Bool.false == Bool.false && (0 == 0 && (3 == 3 && (a.fst == a.fst && a.snd == a.snd)))))) Tr.dead
                              (Tr.node (decide (b.fst > b.snd)) Tr.dead
                                (Tr.node (decide (a.fst > a.snd)) Tr.dead
                                  (Tr.node (decide (b.fst > b.snd)) Tr.dead
                                    (Tr.node (decide (a.fst > a.snd)) Tr.dead
                                      (Tr.node (decide (a.fst > a.snd)) Tr.dead
                                        (Tr.node (decide (b.fst > b.snd)) Tr.dead
                                          (Tr.node
                                            (((if b.fst < a.fst then b.fst else a.fst) == if b.fst < a.fst then b.fst else a.fst) &&
                                              (if b.snd > a.snd then b.snd else a.snd) == if b.snd > a.snd then b.snd else a.snd)
                                            (Tr.leaf (AV.bool !Bool.false) { blks := [], c := 0 }) Tr.dead)))))))))))
                      Tr.dead)
                    (Tr.leaf (AV.bool Bool.true) { blks := [], c := 0 }))
                  (Tr.leaf (AV.bool Bool.true) { blks := [], c := 0 }))
                (Tr.leaf (AV.bool Bool.true) { blks := [], c := 0 }))))
          Tr.dead)
        (Tr.leaf (AV.bool Bool.true) { blks := [], c := 0 }))
      (Tr.leaf (AV.bool Bool.true) { blks := [], c := 0 }))
    (Tr.leaf (AV.bool Bool.true) { blks := [], c := 0 })) := by kernel_rfl
theorem fs31 (a b : I) : evW cxD keeps 12 5 [.agg [.int .i64 a.1, .int .i64 a.2], .agg [.int .i64 b.1, .int .i64 b.2], .int .i64 3, .int .i64 1] (WT.ask 0 (WT.ask 11 (WT.ask 14 WT.auto WT.cut) (WT.ask 5 (WT.ask 2 (WT.ask 5 (WT.ask 2 (WT.ask 7 WT.auto (WT.ask 2 WT.auto WT.cut)) WT.cut) WT.auto) WT.auto) WT.auto)) (WT.ask 5 (WT.ask 2 (WT.ask 5 (WT.ask 2 (WT.ask 5 WT.auto (WT.ask 1 (WT.ask 14 WT.cut (WT.ask 2 WT.auto WT.cut)) (WT.ask 5 (WT.ask 2 (WT.ask 5 (WT.ask 2 (WT.ask 7 WT.auto (WT.ask 2 WT.cut (WT.ask 2 WT.cut (WT.ask 81 WT.cut (WT.ask 361 WT.cut (WT.ask 27 WT.auto WT.cut)))))) WT.cut) WT.auto) WT.auto) WT.auto))) WT.cut) WT.auto) WT.auto) WT.auto)) =
  Tr.node (a.fst == 1 && a.snd == 0)
  (Tr.node (b.fst == 1 && b.snd == 0) (Tr.node (decide (a.fst > a.snd)) (Tr.leaf (AV.bool Bool.true) { blks := [], c := 0 }) Tr.dead)
    (Tr.node (decide (b.fst ≤ b.snd))
      (Tr.node (decide (b.fst ≥ -2147483648))
        (Tr.node (decide (b.fst ≤ 2147483647))
          (Tr.node (decide (b.snd ≥ -2147483648))
            (Tr.node (!decide (b.snd ≤ 2147483647)) (Tr.leaf (AV.bool Bool.true) { blks := [], c := 0 })
              (Tr.node (decide (a.fst > a.snd)) (Tr.leaf (AV.bool Bool.true) { blks := [], c := 0 }) Tr.dead))
            Tr.dead)
          (Tr.leaf (AV.bool Bool.true) { blks := [], c := 0 }))
        (Tr.leaf (AV.bool Bool.true) { blks := [], c := 0 }))
      (Tr.leaf (AV.bool Bool.true) { blks := [], c := 0 })))
  (Tr.node (decide (a.fst ≤ a.snd))
    (Tr.node (decide (a.fst ≥ -2147483648))
      (Tr.node (decide (a.fst ≤ 2147483647))
        (Tr.node (decide (a.snd ≥ -2147483648))
          (Tr.node (!decide (a.snd ≤ 2147483647)) (Tr.leaf (AV.bool Bool.true) { blks := [], c := 0 })
            (Tr.node (b.fst == 1 && b.snd == 0)
              (Tr.node (decide (a.fst > a.snd)) Tr.dead
                (Tr.node (decide (b.fst > b.snd)) (Tr.leaf (AV.bool Bool.true) { blks := [], c := 0 }) Tr.dead))
              (Tr.node (decide (b.fst ≤ b.snd))
                (Tr.node (decide (b.fst ≥ -2147483648))
                  (Tr.node (decide (b.fst ≤ 2147483647))
                    (Tr.node (decide (b.snd ≥ -2147483648))
                      (Tr.node (!decide (b.snd ≤ 2147483647)) (Tr.leaf (AV.bool Bool.true) { blks := [], c := 0 })
                        (Tr.node (decide (a.fst > a.snd)) Tr.dead
                          (Tr.node (decide (b.fst > b.snd)) Tr.dead
                            (Tr.node (!(0 == 0 && (Bool.false == Bool.false && (0 == 0 && (3 == 3 && (a.fst == a.fst && a.snd == a.snd)))))) Tr.dead
                              (Tr.node (decide (a.fst > a.snd)) Tr.dead
                                (Tr.node (a.fst == a.fst && a.snd == a.snd) (Tr.leaf (AV.bool !Bool.false) { blks := [], c := 0 }) Tr.dead))))))
                      Tr.dead)
                    (Tr.leaf (AV.bool Bool.true) { blks := [], c := 0 }))
                  (Tr.leaf (AV.bool Bool.true) { blks := [], c := 0 }))
                (Tr.leaf (AV.bool Bool.true) { blks := [], c := 0 }))))
          Tr.dead)
        (Tr.leaf (AV.bool Bool.true) { blks := [], c := 0 }))
      (Tr.leaf (AV.bool Bool.true) { blks := [], c := 0 }))
    (Tr.leaf (AV.bool Bool.true) { blks := [], c := 0 })) := by kernel_rfl
theorem fs32 (a b : I) : evW cxD keeps 12 5 [.agg [.int .i64 a.1, .int .i64 a.2], .agg [.int .i64 b.1, .int .i64 b.2], .int .i64 3, .int .i64 2] (WT.ask 0 (WT.ask 11 (WT.ask 14 WT.auto WT.cut) (WT.ask 5 (WT.ask 2 (WT.ask 5 (WT.ask 2 (WT.ask 7 WT.auto (WT.ask 2 WT.auto WT.cut)) WT.cut) WT.auto) WT.auto) WT.auto)) (WT.ask 5 (WT.ask 2 (WT.ask 5 (WT.ask 2 (WT.ask 5 WT.auto (WT.ask 1 (WT.ask 14 WT.cut (WT.ask 2 WT.auto WT.cut)) (WT.ask 5 (WT.ask 2 (WT.ask 5 (WT.ask 2 (WT.ask 7 WT.auto (WT.ask 2 WT.cut (WT.ask 2 WT.cut (WT.ask 81 WT.cut (WT.ask 361 WT.cut (WT.ask 27 WT.auto WT.cut)))))) WT.cut) WT.auto) WT.auto) WT.auto))) WT.cut) WT.auto) WT.auto) WT.auto)) =
  Tr.node (a.fst == 1 && a.snd == 0)
  (Tr.node (b.fst == 1 && b.snd == 0) (Tr.node (decide (a.fst > a.snd)) (Tr.leaf (AV.bool Bool.true) { blks := [], c := 0 }) Tr.dead)
    (Tr.node (decide (b.fst ≤ b.snd))
      (Tr.node (decide (b.fst ≥ -2147483648))
        (Tr.node (decide (b.fst ≤ 2147483647))
          (Tr.node (decide (b.snd ≥ -2147483648))
            (Tr.node (!decide (b.snd ≤ 2147483647)) (Tr.leaf (AV.bool Bool.true) { blks := [], c := 0 })
              (Tr.node (decide (a.fst > a.snd)) (Tr.leaf (AV.bool Bool.true) { blks := [], c := 0 }) Tr.dead))
            Tr.dead)
          (Tr.leaf (AV.bool Bool.true) { blks := [], c := 0 }))
        (Tr.leaf (AV.bool Bool.true) { blks := [], c := 0 }))
      (Tr.leaf (AV.bool Bool.true) { blks := [], c := 0 })))
  (Tr.node (decide (a.fst ≤ a.snd))
    (Tr.node (decide (a.fst ≥ -2147483648))
      (Tr.node (decide (a.fst ≤ 2147483647))
        (Tr.node (decide (a.snd ≥ -2147483648))
          (Tr.node (!decide (a.snd ≤ 2147483647)) (Tr.leaf (AV.bool Bool.true) { blks := [], c := 0 })
            (Tr.node (b.fst == 1 && b.snd == 0)
              (Tr.node (decide (a.fst > a.snd)) Tr.dead
                (Tr.node (decide (b.fst > b.snd)) (Tr.leaf (AV.bool Bool.true) { blks := [], c := 0 }) Tr.dead))
              (Tr.node (decide (b.fst ≤ b.snd))
                (Tr.node (decide (b.fst ≥ -2147483648))
                  (Tr.node (decide (b.fst ≤ 2147483647))
                    (Tr.node (decide (b.snd ≥ -2147483648))
                      (Tr.node (!decide (b.snd ≤ 2147483647)) (Tr.leaf (AV.bool Bool.true) { blks := [], c := 0 })
                        (Tr.node (decide (a.fst > a.snd)) Tr.dead
                          (Tr.node (decide (b.fst > b.snd)) Tr.dead
                            (Tr.node (!(0 == 0 && (Bool.false == Bool.false && (0 == 0 && (3 == 3 && (a.fst == a.fst && a.snd == a.snd)))))) Tr.dead
                              (Tr.node (decide (a.fst > a.snd)) Tr.dead
                                (Tr.node (a.fst == a.fst && a.snd == a.snd) (Tr.leaf (AV.bool !Bool.false) { blks := [], c := 0 }) Tr.dead))))))
                      Tr.dead)
                    (Tr.leaf (AV.bool Bool.true) { blks := [], c := 0 }))
                  (Tr.leaf (AV.bool Bool.true) { blks := [], c := 0 }))
                (Tr.leaf (AV.bool Bool.true) { blks := [], c := 0 }))))
          Tr.dead)
        (Tr.leaf (AV.bool Bool.true) { blks := [], c := 0 }))
      (Tr.leaf (AV.bool Bool.true) { blks := [], c := 0 }))
    (Tr.leaf (AV.bool Bool.true) { blks := [], c := 0 })) := by kernel_rfl
theorem fs33 (a b : I) : evW cxD keeps 12 5 [.agg [.int .i64 a.1, .int .i64 a.2], .agg [.int .i64 b.1, .int .i64 b.2], .int .i64 3, .int .i64 3] (WT.ask 0 (WT.ask 11 (WT.ask 14 WT.auto WT.cut) (WT.ask 5 (WT.ask 2 (WT.ask 5 (WT.ask 2 (WT.ask 7 WT.auto (WT.ask 2 WT.auto WT.cut)) WT.cut) WT.auto) WT.auto) WT.auto)) (WT.ask 5 (WT.ask 2 (WT.ask 5 (WT.ask 2 (WT.ask 5 WT.auto (WT.ask 1 (WT.ask 14 WT.cut (WT.ask 2 WT.auto WT.cut)) (WT.ask 5 (WT.ask 2 (WT.ask 5 (WT.ask 2 (WT.ask 7 WT.auto (WT.ask 2 WT.cut (WT.ask 2 WT.cut (WT.ask 81 WT.cut (WT.ask 362 WT.cut (WT.ask 27 WT.auto WT.cut)))))) WT.cut) WT.auto) WT.auto) WT.auto))) WT.cut) WT.auto) WT.auto) WT.auto)) =
  Tr.node (a.fst == 1 && a.snd == 0)
  (Tr.node (b.fst == 1 && b.snd == 0) (Tr.node (decide (a.fst > a.snd)) (Tr.leaf (AV.bool Bool.true) { blks := [], c := 0 }) Tr.dead)
    (Tr.node (decide (b.fst ≤ b.snd))
      (Tr.node (decide (b.fst ≥ -2147483648))
        (Tr.node (decide (b.fst ≤ 2147483647))
          (Tr.node (decide (b.snd ≥ -2147483648))
            (Tr.node (!decide (b.snd ≤ 2147483647)) (Tr.leaf (AV.bool Bool.true) { blks := [], c := 0 })
              (Tr.node (decide (a.fst > a.snd)) (Tr.leaf (AV.bool Bool.true) { blks := [], c := 0 }) Tr.dead))
            Tr.dead)
          (Tr.leaf (AV.bool Bool.true) { blks := [], c := 0 }))
        (Tr.leaf (AV.bool Bool.true) { blks := [], c := 0 }))
      (Tr.leaf (AV.bool Bool.true) { blks := [], c := 0 })))
  (Tr.node (decide (a.fst ≤ a.snd))
    (Tr.node (decide (a.fst ≥ -2147483648))
      (Tr.node (decide (a.fst ≤ 2147483647))
        (Tr.node (decide (a.snd ≥ -2147483648))
          (Tr.node (!decide (a.snd ≤ 2147483647)) (Tr.leaf (AV.bool Bool.true) { blks := [], c := 0 })
            (Tr.node (b.fst == 1 && b.snd == 0)
              (Tr.node (decide (a.fst > a.snd)) Tr.dead
                (Tr.node (decide (b.fst > b.snd)) (Tr.leaf (AV.bool Bool.true) { blks := [], c := 0 }) Tr.dead))
              (Tr.node (decide (b.fst ≤ b.snd))
                (Tr.node (decide (b.fst ≥ -2147483648))
                  (Tr.node (decide (b.fst ≤ 2147483647))
                    (Tr.node (decide (b.snd ≥ -2147483648))
                      (Tr.node (!decide (b.snd ≤ 2147483647)) (Tr.leaf (AV.bool Bool.true) { blks := [], c := 0 })
                        (Tr.node (decide (a.fst > a.snd)) Tr.dead
                          (Tr.node (decide (b.fst > b.snd)) Tr.dead
                            (Tr.node (!(0 == 0 && (Bool.false == Bool.false && (0 == 0 && (3 == 3 && (a.fst == a.fst && a.snd == a.snd)))))) Tr.dead
                              (Tr.node (decide (a.fst > a.snd)) Tr.dead
                                (Tr.node (a.fst == a.fst && a.snd == a.snd) (Tr.leaf (AV.bool !Bool.false) { blks := [], c := 0 }) Tr.dead))))))
                      Tr.dead)
                    (Tr.leaf (AV.bool Bool.true) { blks := [], c := 0 }))
                  (Tr.leaf (AV.bool Bool.true) { blks := [], c := 0 }))
                (Tr.leaf (AV.bool Bool.true) { blks := [], c := 0 }))))
          Tr.dead)
        (Tr.leaf (AV.bool Bool.true) { blks := [], c := 0 }))
      (Tr.leaf (AV.bool Bool.true) { blks := [], c := 0 }))
    (Tr.leaf (AV.bool Bool.true) { blks := [], c := 0 })) := by kernel_rfl
theorem law5_00 (a b : I) : ∃ w, (evW cxD keeps 12 5 [.agg [.int .i64 a.1, .int .i64 a.2], .agg [.int .i64 b.1, .int .i64 b.2], .int .i64 0, .int .i64 0] w).sem = some (.bool true, ⟨[], 0⟩) := by
  refine ⟨_, of_tree (fs00 a b) ?_⟩
  (repeat' first | exact rfl | refine sem_node (fun h => ?_) (fun h => ?_)) <;> (exfalso; (try simp only [decide_eq_true_eq, decide_eq_false_iff_not, Bool.and_eq_true, Bool.and_eq_false_iff, Bool.or_eq_true, Bool.or_eq_false_iff, Bool.not_eq_true', Bool.not_eq_false', beq_iff_eq, beq_eq_false_iff_ne, bne_iff_ne, ne_eq, bne_eq_false_iff_eq, beq_self_eq_true, Bool.and_self, Bool.not_true, Bool.not_false, Bool.true_and, Bool.and_true, Bool.false_and, Bool.and_false, Bool.true_eq_false, Bool.false_eq_true, wrap64] at *) <;> omega)
theorem law5_01 (a b : I) : ∃ w, (evW cxD keeps 12 5 [.agg [.int .i64 a.1, .int .i64 a.2], .agg [.int .i64 b.1, .int .i64 b.2], .int .i64 0, .int .i64 1] w).sem = some (.bool true, ⟨[], 0⟩) := by
  refine ⟨_, of_tree (fs01 a b) ?_⟩
  (repeat' first | exact rfl | refine sem_node (fun h => ?_) (fun h => ?_)) <;> (exfalso; (try simp only [decide_eq_true_eq, decide_eq_false_iff_not, Bool.and_eq_true, Bool.and_eq_false_iff, Bool.or_eq_true, Bool.or_eq_false_iff, Bool.not_eq_true', Bool.not_eq_false', beq_iff_eq, beq_eq_false_iff_ne, bne_iff_ne, ne_eq, bne_eq_false_iff_eq, beq_self_eq_true, Bool.and_self, Bool.not_true, Bool.not_false, Bool.true_and, Bool.and_true, Bool.false_and, Bool.and_false, Bool.true_eq_false, Bool.false_eq_true, wrap64] at *) <;> omega)
theorem law5_02 (a b : I) : ∃ w, (evW cxD keeps 12 5 [.agg [.int .i64 a.1, .int .i64 a.2], .agg [.int .i64 b.1, .int .i64 b.2], .int .i64 0, .int .i64 2] w).sem = some (.bool true, ⟨[], 0⟩) := by
  refine ⟨_, of_tree (fs02 a b) ?_⟩
  (repeat' first | exact rfl | refine sem_node (fun h => ?_) (fun h => ?_)) <;> (exfalso; (try simp only [decide_eq_true_eq, decide_eq_false_iff_not, Bool.and_eq_true, Bool.and_eq_false_iff, Bool.or_eq_true, Bool.or_eq_false_iff, Bool.not_eq_true', Bool.not_eq_false', beq_iff_eq, beq_eq_false_iff_ne, bne_iff_ne, ne_eq, bne_eq_false_iff_eq, beq_self_eq_true, Bool.and_self, Bool.not_true, Bool.not_false, Bool.true_and, Bool.and_true, Bool.false_and, Bool.and_false, Bool.true_eq_false, Bool.false_eq_true, wrap64] at *) <;> omega)
theorem law5_03 (a b : I) : ∃ w, (evW cxD keeps 12 5 [.agg [.int .i64 a.1, .int .i64 a.2], .agg [.int .i64 b.1, .int .i64 b.2], .int .i64 0, .int .i64 3] w).sem = some (.bool true, ⟨[], 0⟩) := by
  refine ⟨_, of_tree (fs03 a b) ?_⟩
  (repeat' first | exact rfl | refine sem_node (fun h => ?_) (fun h => ?_)) <;> (exfalso; (try simp only [decide_eq_true_eq, decide_eq_false_iff_not, Bool.and_eq_true, Bool.and_eq_false_iff, Bool.or_eq_true, Bool.or_eq_false_iff, Bool.not_eq_true', Bool.not_eq_false', beq_iff_eq, beq_eq_false_iff_ne, bne_iff_ne, ne_eq, bne_eq_false_iff_eq, beq_self_eq_true, Bool.and_self, Bool.not_true, Bool.not_false, Bool.true_and, Bool.and_true, Bool.false_and, Bool.and_false, Bool.true_eq_false, Bool.false_eq_true, wrap64] at *) <;> omega)
theorem law5_10 (a b : I) : ∃ w, (evW cxD keeps 12 5 [.agg [.int .i64 a.1, .int .i64 a.2], .agg [.int .i64 b.1, .int .i64 b.2], .int .i64 1, .int .i64 0] w).sem = some (.bool true, ⟨[], 0⟩) := by
  refine ⟨_, of_tree (fs10 a b) ?_⟩
  (repeat' first | exact rfl | refine sem_node (fun h => ?_) (fun h => ?_)) <;> (exfalso; (try simp only [decide_eq_true_eq, decide_eq_false_iff_not, Bool.and_eq_true, Bool.and_eq_false_iff, Bool.or_eq_true, Bool.or_eq_false_iff, Bool.not_eq_true', Bool.not_eq_false', beq_iff_eq, beq_eq_false_iff_ne, bne_iff_ne, ne_eq, bne_eq_false_iff_eq, beq_self_eq_true, Bool.and_self, Bool.not_true, Bool.not_false, Bool.true_and, Bool.and_true, Bool.false_and, Bool.and_false, Bool.true_eq_false, Bool.false_eq_true, wrap64] at *) <;> omega)
theorem law5_11 (a b : I) : ∃ w, (evW cxD keeps 12 5 [.agg [.int .i64 a.1, .int .i64 a.2], .agg [.int .i64 b.1, .int .i64 b.2], .int .i64 1, .int .i64 1] w).sem = some (.bool true, ⟨[], 0⟩) := by
  refine ⟨_, of_tree (fs11 a b) ?_⟩
  (repeat' first | exact rfl | refine sem_node (fun h => ?_) (fun h => ?_)) <;> (exfalso; (try simp only [decide_eq_true_eq, decide_eq_false_iff_not, Bool.and_eq_true, Bool.and_eq_false_iff, Bool.or_eq_true, Bool.or_eq_false_iff, Bool.not_eq_true', Bool.not_eq_false', beq_iff_eq, beq_eq_false_iff_ne, bne_iff_ne, ne_eq, bne_eq_false_iff_eq, beq_self_eq_true, Bool.and_self, Bool.not_true, Bool.not_false, Bool.true_and, Bool.and_true, Bool.false_and, Bool.and_false, Bool.true_eq_false, Bool.false_eq_true, wrap64] at *) <;> omega)
theorem law5_12 (a b : I) : ∃ w, (evW cxD keeps 12 5 [.agg [.int .i64 a.1, .int .i64 a.2], .agg [.int .i64 b.1, .int .i64 b.2], .int .i64 1, .int .i64 2] w).sem = some (.bool true, ⟨[], 0⟩) := by
  refine ⟨_, of_tree (fs12 a b) ?_⟩
  (repeat' first | exact rfl | refine sem_node (fun h => ?_) (fun h => ?_)) <;> (exfalso; (try simp only [decide_eq_true_eq, decide_eq_false_iff_not, Bool.and_eq_true, Bool.and_eq_false_iff, Bool.or_eq_true, Bool.or_eq_false_iff, Bool.not_eq_true', Bool.not_eq_false', beq_iff_eq, beq_eq_false_iff_ne, bne_iff_ne, ne_eq, bne_eq_false_iff_eq, beq_self_eq_true, Bool.and_self, Bool.not_true, Bool.not_false, Bool.true_and, Bool.and_true, Bool.false_and, Bool.and_false, Bool.true_eq_false, Bool.false_eq_true, wrap64] at *) <;> omega)
theorem law5_13 (a b : I) : ∃ w, (evW cxD keeps 12 5 [.agg [.int .i64 a.1, .int .i64 a.2], .agg [.int .i64 b.1, .int .i64 b.2], .int .i64 1, .int .i64 3] w).sem = some (.bool true, ⟨[], 0⟩) := by
  refine ⟨_, of_tree (fs13 a b) ?_⟩
  (repeat' first | exact rfl | refine sem_node (fun h => ?_) (fun h => ?_)) <;> (exfalso; (try simp only [decide_eq_true_eq, decide_eq_false_iff_not, Bool.and_eq_true, Bool.and_eq_false_iff, Bool.or_eq_true, Bool.or_eq_false_iff, Bool.not_eq_true', Bool.not_eq_false', beq_iff_eq, beq_eq_false_iff_ne, bne_iff_ne, ne_eq, bne_eq_false_iff_eq, beq_self_eq_true, Bool.and_self, Bool.not_true, Bool.not_false, Bool.true_and, Bool.and_true, Bool.false_and, Bool.and_false, Bool.true_eq_false, Bool.false_eq_true, wrap64] at *) <;> omega)
theorem law5_20 (a b : I) : ∃ w, (evW cxD keeps 12 5 [.agg [.int .i64 a.1, .int .i64 a.2], .agg [.int .i64 b.1, .int .i64 b.2], .int .i64 2, .int .i64 0] w).sem = some (.bool true, ⟨[], 0⟩) := by
  refine ⟨_, of_tree (fs20 a b) ?_⟩
  (repeat' first | exact rfl | refine sem_node (fun h => ?_) (fun h => ?_)) <;> (exfalso; (try simp only [decide_eq_true_eq, decide_eq_false_iff_not, Bool.and_eq_true, Bool.and_eq_false_iff, Bool.or_eq_true, Bool.or_eq_false_iff, Bool.not_eq_true', Bool.not_eq_false', beq_iff_eq, beq_eq_false_iff_ne, bne_iff_ne, ne_eq, bne_eq_false_iff_eq, beq_self_eq_true, Bool.and_self, Bool.not_true, Bool.not_false, Bool.true_and, Bool.and_true, Bool.false_and, Bool.and_false, Bool.true_eq_false, Bool.false_eq_true, wrap64] at *) <;> omega)
theorem law5_21 (a b : I) : ∃ w, (evW cxD keeps 12 5 [.agg [.int .i64 a.1, .int .i64 a.2], .agg [.int .i64 b.1, .int .i64 b.2], .int .i64 2, .int .i64 1] w).sem = some (.bool true, ⟨[], 0⟩) := by
  refine ⟨_, of_tree (fs21 a b) ?_⟩
  (repeat' first | exact rfl | refine sem_node (fun h => ?_) (fun h => ?_)) <;> (exfalso; (try simp only [decide_eq_true_eq, decide_eq_false_iff_not, Bool.and_eq_true, Bool.and_eq_false_iff, Bool.or_eq_true, Bool.or_eq_false_iff, Bool.not_eq_true', Bool.not_eq_false', beq_iff_eq, beq_eq_false_iff_ne, bne_iff_ne, ne_eq, bne_eq_false_iff_eq, beq_self_eq_true, Bool.and_self, Bool.not_true, Bool.not_false, Bool.true_and, Bool.and_true, Bool.false_and, Bool.and_false, Bool.true_eq_false, Bool.false_eq_true, wrap64] at *) <;> omega)
theorem law5_22 (a b : I) : ∃ w, (evW cxD keeps 12 5 [.agg [.int .i64 a.1, .int .i64 a.2], .agg [.int .i64 b.1, .int .i64 b.2], .int .i64 2, .int .i64 2] w).sem = some (.bool true, ⟨[], 0⟩) := by
  refine ⟨_, of_tree (fs22 a b) ?_⟩
  (repeat' first | exact rfl | refine sem_node (fun h => ?_) (fun h => ?_)) <;> (exfalso; (try simp only [decide_eq_true_eq, decide_eq_false_iff_not, Bool.and_eq_true, Bool.and_eq_false_iff, Bool.or_eq_true, Bool.or_eq_false_iff, Bool.not_eq_true', Bool.not_eq_false', beq_iff_eq, beq_eq_false_iff_ne, bne_iff_ne, ne_eq, bne_eq_false_iff_eq, beq_self_eq_true, Bool.and_self, Bool.not_true, Bool.not_false, Bool.true_and, Bool.and_true, Bool.false_and, Bool.and_false, Bool.true_eq_false, Bool.false_eq_true, wrap64] at *) <;> omega)
theorem law5_23 (a b : I) : ∃ w, (evW cxD keeps 12 5 [.agg [.int .i64 a.1, .int .i64 a.2], .agg [.int .i64 b.1, .int .i64 b.2], .int .i64 2, .int .i64 3] w).sem = some (.bool true, ⟨[], 0⟩) := by
  refine ⟨_, of_tree (fs23 a b) ?_⟩
  (repeat' first | exact rfl | refine sem_node (fun h => ?_) (fun h => ?_)) <;> (exfalso; (try simp only [decide_eq_true_eq, decide_eq_false_iff_not, Bool.and_eq_true, Bool.and_eq_false_iff, Bool.or_eq_true, Bool.or_eq_false_iff, Bool.not_eq_true', Bool.not_eq_false', beq_iff_eq, beq_eq_false_iff_ne, bne_iff_ne, ne_eq, bne_eq_false_iff_eq, beq_self_eq_true, Bool.and_self, Bool.not_true, Bool.not_false, Bool.true_and, Bool.and_true, Bool.false_and, Bool.and_false, Bool.true_eq_false, Bool.false_eq_true, wrap64] at *) <;> omega)
theorem law5_30 (a b : I) : ∃ w, (evW cxD keeps 12 5 [.agg [.int .i64 a.1, .int .i64 a.2], .agg [.int .i64 b.1, .int .i64 b.2], .int .i64 3, .int .i64 0] w).sem = some (.bool true, ⟨[], 0⟩) := by
  refine ⟨_, of_tree (fs30 a b) ?_⟩
  (repeat' first | exact rfl | refine sem_node (fun h => ?_) (fun h => ?_)) <;> (exfalso; (try simp only [decide_eq_true_eq, decide_eq_false_iff_not, Bool.and_eq_true, Bool.and_eq_false_iff, Bool.or_eq_true, Bool.or_eq_false_iff, Bool.not_eq_true', Bool.not_eq_false', beq_iff_eq, beq_eq_false_iff_ne, bne_iff_ne, ne_eq, bne_eq_false_iff_eq, beq_self_eq_true, Bool.and_self, Bool.not_true, Bool.not_false, Bool.true_and, Bool.and_true, Bool.false_and, Bool.and_false, Bool.true_eq_false, Bool.false_eq_true, wrap64] at *) <;> omega)
theorem law5_31 (a b : I) : ∃ w, (evW cxD keeps 12 5 [.agg [.int .i64 a.1, .int .i64 a.2], .agg [.int .i64 b.1, .int .i64 b.2], .int .i64 3, .int .i64 1] w).sem = some (.bool true, ⟨[], 0⟩) := by
  refine ⟨_, of_tree (fs31 a b) ?_⟩
  (repeat' first | exact rfl | refine sem_node (fun h => ?_) (fun h => ?_)) <;> (exfalso; (try simp only [decide_eq_true_eq, decide_eq_false_iff_not, Bool.and_eq_true, Bool.and_eq_false_iff, Bool.or_eq_true, Bool.or_eq_false_iff, Bool.not_eq_true', Bool.not_eq_false', beq_iff_eq, beq_eq_false_iff_ne, bne_iff_ne, ne_eq, bne_eq_false_iff_eq, beq_self_eq_true, Bool.and_self, Bool.not_true, Bool.not_false, Bool.true_and, Bool.and_true, Bool.false_and, Bool.and_false, Bool.true_eq_false, Bool.false_eq_true, wrap64] at *) <;> omega)
theorem law5_32 (a b : I) : ∃ w, (evW cxD keeps 12 5 [.agg [.int .i64 a.1, .int .i64 a.2], .agg [.int .i64 b.1, .int .i64 b.2], .int .i64 3, .int .i64 2] w).sem = some (.bool true, ⟨[], 0⟩) := by
  refine ⟨_, of_tree (fs32 a b) ?_⟩
  (repeat' first | exact rfl | refine sem_node (fun h => ?_) (fun h => ?_)) <;> (exfalso; (try simp only [decide_eq_true_eq, decide_eq_false_iff_not, Bool.and_eq_true, Bool.and_eq_false_iff, Bool.or_eq_true, Bool.or_eq_false_iff, Bool.not_eq_true', Bool.not_eq_false', beq_iff_eq, beq_eq_false_iff_ne, bne_iff_ne, ne_eq, bne_eq_false_iff_eq, beq_self_eq_true, Bool.and_self, Bool.not_true, Bool.not_false, Bool.true_and, Bool.and_true, Bool.false_and, Bool.and_false, Bool.true_eq_false, Bool.false_eq_true, wrap64] at *) <;> omega)
theorem law5_33 (a b : I) : ∃ w, (evW cxD keeps 12 5 [.agg [.int .i64 a.1, .int .i64 a.2], .agg [.int .i64 b.1, .int .i64 b.2], .int .i64 3, .int .i64 3] w).sem = some (.bool true, ⟨[], 0⟩) := by
  refine ⟨_, of_tree (fs33 a b) ?_⟩
  (repeat' first | exact rfl | refine sem_node (fun h => ?_) (fun h => ?_)) <;> (exfalso; (try simp only [decide_eq_true_eq, decide_eq_false_iff_not, Bool.and_eq_true, Bool.and_eq_false_iff, Bool.or_eq_true, Bool.or_eq_false_iff, Bool.not_eq_true', Bool.not_eq_false', beq_iff_eq, beq_eq_false_iff_ne, bne_iff_ne, ne_eq, bne_eq_false_iff_eq, beq_self_eq_true, Bool.and_self, Bool.not_true, Bool.not_false, Bool.true_and, Bool.and_true, Bool.false_and, Bool.and_false, Bool.true_eq_false, Bool.false_eq_true, wrap64] at *) <;> omega)
theorem law5 (a b : I) (h o : Int) : ∃ w, (evW cxD keeps 12 5 [.agg [.int .i64 a.1, .int .i64 a.2], .agg [.int .i64 b.1, .int .i64 b.2], .int .i64 h, .int .i64 o] w).sem = some (.bool true, ⟨[], 0⟩) := by
  by_cases h1 : h < 0
  · refine ⟨_, of_tree (fsg1 a b h o) ?_⟩
    (repeat' first | exact rfl | refine sem_node (fun h => ?_) (fun h => ?_)) <;> (exfalso; (try simp only [decide_eq_true_eq, decide_eq_false_iff_not, Bool.and_eq_true, Bool.and_eq_false_iff, Bool.or_eq_true, Bool.or_eq_false_iff, Bool.not_eq_true', Bool.not_eq_false', beq_iff_eq, beq_eq_false_iff_ne, bne_iff_ne, ne_eq, bne_eq_false_iff_eq, beq_self_eq_true, Bool.and_self, Bool.not_true, Bool.not_false, Bool.true_and, Bool.and_true, Bool.false_and, Bool.and_false, Bool.true_eq_false, Bool.false_eq_true, wrap64] at *) <;> omega)
  by_cases h2 : h > 3
  · refine ⟨_, of_tree (fsg2 a b h o) ?_⟩
    (repeat' first | exact rfl | refine sem_node (fun h => ?_) (fun h => ?_)) <;> (exfalso; (try simp only [decide_eq_true_eq, decide_eq_false_iff_not, Bool.and_eq_true, Bool.and_eq_false_iff, Bool.or_eq_true, Bool.or_eq_false_iff, Bool.not_eq_true', Bool.not_eq_false', beq_iff_eq, beq_eq_false_iff_ne, bne_iff_ne, ne_eq, bne_eq_false_iff_eq, beq_self_eq_true, Bool.and_self, Bool.not_true, Bool.not_false, Bool.true_and, Bool.and_true, Bool.false_and, Bool.and_false, Bool.true_eq_false, Bool.false_eq_true, wrap64] at *) <;> omega)
  by_cases h3 : o < 0
  · refine ⟨_, of_tree (fsg3 a b h o) ?_⟩
    (repeat' first | exact rfl | refine sem_node (fun h => ?_) (fun h => ?_)) <;> (exfalso; (try simp only [decide_eq_true_eq, decide_eq_false_iff_not, Bool.and_eq_true, Bool.and_eq_false_iff, Bool.or_eq_true, Bool.or_eq_false_iff, Bool.not_eq_true', Bool.not_eq_false', beq_iff_eq, beq_eq_false_iff_ne, bne_iff_ne, ne_eq, bne_eq_false_iff_eq, beq_self_eq_true, Bool.and_self, Bool.not_true, Bool.not_false, Bool.true_and, Bool.and_true, Bool.false_and, Bool.and_false, Bool.true_eq_false, Bool.false_eq_true, wrap64] at *) <;> omega)
  by_cases h4 : o > 3
  · refine ⟨_, of_tree (fsg4 a b h o) ?_⟩
    (repeat' first | exact rfl | refine sem_node (fun h => ?_) (fun h => ?_)) <;> (exfalso; (try simp only [decide_eq_true_eq, decide_eq_false_iff_not, Bool.and_eq_true, Bool.and_eq_false_iff, Bool.or_eq_true, Bool.or_eq_false_iff, Bool.not_eq_true', Bool.not_eq_false', beq_iff_eq, beq_eq_false_iff_ne, bne_iff_ne, ne_eq, bne_eq_false_iff_eq, beq_self_eq_true, Bool.and_self, Bool.not_true, Bool.not_false, Bool.true_and, Bool.and_true, Bool.false_and, Bool.and_false, Bool.true_eq_false, Bool.false_eq_true, wrap64] at *) <;> omega)
  have e1 : h = 0 ∨ h = 1 ∨ h = 2 ∨ h = 3 := by omega
  have e2 : o = 0 ∨ o = 1 ∨ o = 2 ∨ o = 3 := by omega
  rcases e1 with rfl | rfl | rfl | rfl <;> rcases e2 with rfl | rfl | rfl | rfl
  · exact law5_00 a b
  · exact law5_01 a b
  · exact law5_02 a b
  · exact law5_03 a b
  · exact law5_10 a b
  · exact law5_11 a b
  · exact law5_12 a b
  · exact law5_13 a b
  · exact law5_20 a b
  · exact law5_21 a b
  · exact law5_22 a b
  · exact law5_23 a b
  · exact law5_30 a b
  · exact law5_31 a b
  · exact law5_32 a b
  · exact law5_33 a b
end Go.Proofs.Ytabffaaoldfjkaa.Ex

