/- A part of the proofs of the laws of flow: XP. -/
import Derived.Test.YtabffaaoldfjkaaXN
/- FlowBranches: 3. -/
namespace Go.Proofs.Ytabffaaoldfjkaa.Ex
open Go.Proofs Go.Proofs.Ytabffaaoldfjkaa
set_option maxRecDepth 100000
set_option maxHeartbeats 0
set_option linter.unusedSimpArgs false
set_option linter.unusedVariables false
theorem fb3 (a b : I) : evW cxD keeps 12 3 [.agg [.int .i64 a.1, .int .i64 a.2], .agg [.int .i64 b.1, .int .i64 b.2], .int .i64 3] (wa 0 (wa 11 (wa 14 wo wc) (wa 5 (wa 2 (wa 5 (wa 2 (wa 7 wo (wa 2 wo wc)) wc) wo) wo) wo)) (wa 5 (wa 2 (wa 5 (wa 2 (wa 5 wo (wa 1 (wa 14 wc (wa 2 wo wc)) (wa 5 (wa 2 (wa 5 (wa 2 (wa
  7 wo (wa 2 wc (wa 2 wc (wa 58 wc (wa 2 wc (wa 2 (wa 0 wc (wa 2 wc (wa 22 (wa 0 (wa 0 wc (wa 2 wc (wa 2 wc (wa 2 wc (wa 1 wc (wa 2 wc (wa 10 wc (wa 2 wc (wa 5 (wa 7 wc (wa 2 wc (wa
  6 (wa 0 (wa 0 wc (wa 2 wc (wa 8 wo (wa 41 (wa 10 wo wc) wc)))) (wa 0 wc (wa 0 wc (wa 0 wc (wa 0 wc (wa 2 wc (wa 8 wo (wa 41 (wa 10 wo wc) wc)))))))) (wa 0 wc (wa 0 wc (wa 0 wc (wa
  0 (wa 0 wc (wa 2 wc (wa 8 wo (wa 41 (wa 10 wo wc) wc)))) (wa 0 wc (wa 0 wc (wa 0 wc (wa 0 wc (wa 2 wc (wa 8 wo (wa 41 (wa 10 wo wc) wc)))))))))))))) wc))))))))) (wa 0 (wa 0 wc (wa
  2 wc (wa 2 wc (wa 2 (wa 5 wc (wa 2 wc (wa 5 (wa 7 wc (wa 2 wc (wa 6 wc (wa 0 wc (wa 0 wc (wa 0 wc (wa 0 (wa 0 wc (wa 2 wc (wa 8 wo wo))) (wa 0 wc (wa 0 wc (wa 0 wc (wa 0 wc (wa 2
  wc (wa 8 wo wo))))))))))))) wc))) (wa 1 wc (wa 2 wc (wa 10 wc (wa 2 wc (wa 5 (wa 7 wc (wa 2 wc (wa 6 (wa 0 (wa 0 wc (wa 2 wc (wa 8 wo (wa 41 (wa 10 wc wo) wc)))) (wa 0 wc (wa 0 wc
  (wa 0 wc (wa 0 wc (wa 2 wc (wa 8 wo (wa 41 (wa 10 wc wo) wc)))))))) wc))) wc))))))))) (wa 0 (wa 0 wc (wa 2 wc (wa 2 wc (wa 2 (wa 5 wc (wa 2 wc (wa 5 (wa 7 wc (wa 2 wc (wa 6 wc (wa
  0 wc (wa 0 wc (wa 0 wc (wa 0 (wa 0 wc (wa 2 wc (wa 8 wo wo))) (wa 0 wc (wa 0 wc (wa 0 wc (wa 0 wc (wa 2 wc (wa 8 wo wo))))))))))))) wc))) (wa 1 wc (wa 2 wc (wa 10 wc (wa 2 wc (wa 5
  (wa 7 wc (wa 2 wc (wa 6 (wa 0 (wa 0 wc (wa 2 wc (wa 8 wo (wa 41 (wa 10 wc wo) wc)))) (wa 0 wc (wa 0 wc (wa 0 wc (wa 0 wc (wa 2 wc (wa 8 wo (wa 41 (wa 10 wc wo) wc)))))))) wc)))
  wc))))))))) (wa 0 wc (wa 2 wc (wa 2 wc (wa 2 wc (wa 1 wc (wa 2 wc (wa 10 wc (wa 2 wc (wa 5 (wa 7 wc (wa 2 wc (wa 6 (wa 0 (wa 0 wc (wa 2 wc (wa 8 wo (wa 41 (wa 10 wo wc) wc)))) (wa
  0 wc (wa 0 wc (wa 0 wc (wa 0 wc (wa 2 wc (wa 8 wo (wa 41 (wa 10 wo wc) wc)))))))) (wa 0 wc (wa 0 wc (wa 0 wc (wa 0 (wa 0 wc (wa 2 wc (wa 8 wo (wa 41 (wa 10 wo wc) wc)))) (wa 0 wc
  (wa 0 wc (wa 0 wc (wa 0 wc (wa 2 wc (wa 8 wo (wa 41 (wa 10 wo wc) wc)))))))))))))) wc)))))))))))) (wa 0 (wa 0 (wa 0 wc (wa 2 wc (wa 2 (wa 8 wc (wa 2 wc (wa 5 (wa 7 wc (wa 2 wc (wa
  6 (wa 0 wc (wa 0 wc (wa 0 wc (wa 0 wc (wa 0 wc (wa 2 wc (wa 8 wo wo))))))) (wa 0 wc (wa 0 wc (wa 0 wc (wa 0 wc (wa 0 wc (wa 0 wc (wa 0 wc (wa 0 wc (wa 2 wc (wa 8 wo wo)))))))))))))
  wc))) (wa 2 wc (wa 1 wc (wa 2 wc (wa 10 wc (wa 2 wc (wa 5 (wa 7 wc (wa 2 wc (wa 6 (wa 0 (wa 0 wc (wa 2 wc (wa 8 wo (wa 41 wc wo)))) wc) (wa 0 wc (wa 0 wc (wa 0 wc (wa 0 (wa 0 wc
  (wa 2 wc (wa 8 wo (wa 41 wc wo)))) wc))))))) wc))))))))) (wa 0 (wa 0 wc (wa 2 wc (wa 2 (wa 8 wc (wa 2 wc (wa 5 (wa 7 wc (wa 2 wc (wa 6 (wa 0 wc (wa 0 wc (wa 0 wc (wa 0 wc (wa 0 wc
  (wa 2 wc (wa 8 wo wo))))))) (wa 0 wc (wa 0 wc (wa 0 wc (wa 0 wc (wa 0 wc (wa 0 wc (wa 0 wc (wa 0 wc (wa 2 wc (wa 8 wo wo))))))))))))) wc))) (wa 2 (wa 5 wc (wa 2 wc (wa 5 (wa 7 wc
  (wa 2 wc (wa 6 wc (wa 0 wc (wa 0 wc (wa 0 wc (wa 0 (wa 0 wc (wa 2 wc (wa 8 wo wo))) wc))))))) wc))) (wa 1 wc (wa 2 wc (wa 10 wc (wa 2 wc (wa 5 (wa 7 wc (wa 2 wc (wa 6 (wa 0 (wa 0
  wc (wa 2 wc (wa 8 wo (wa 41 wc wo)))) wc) wc))) wc))))))))) wc)) (wa 0 (wa 0 (wa 0 wc (wa 2 wc (wa 2 (wa 8 wc (wa 2 wc (wa 5 (wa 7 wc (wa 2 wc (wa 6 (wa 0 wc (wa 0 wc (wa 0 wc (wa
  0 wc (wa 0 wc (wa 2 wc (wa 8 wo wo))))))) (wa 0 wc (wa 0 wc (wa 0 wc (wa 0 wc (wa 0 wc (wa 0 wc (wa 0 wc (wa 0 wc (wa 2 wc (wa 8 wo wo))))))))))))) wc))) (wa 2 wc (wa 1 wc (wa 2 wc
  (wa 10 wc (wa 2 wc (wa 5 (wa 7 wc (wa 2 wc (wa 6 (wa 0 (wa 0 wc (wa 2 wc (wa 8 wo (wa 41 wc wo)))) wc) (wa 0 wc (wa 0 wc (wa 0 wc (wa 0 (wa 0 wc (wa 2 wc (wa 8 wo (wa 41 wc wo))))
  wc))))))) wc))))))))) wc) (wa 0 (wa 0 wc (wa 2 wc (wa 2 wc (wa 2 wc (wa 1 wc (wa 2 wc (wa 10 wc (wa 2 wc (wa 5 (wa 7 wc (wa 2 wc (wa 6 (wa 0 (wa 0 wc (wa 2 wc (wa 8 wo (wa 41 (wa
  10 wo wc) wc)))) (wa 0 wc (wa 0 wc (wa 0 wc (wa 0 wc (wa 2 wc (wa 8 wo (wa 41 (wa 10 wo wc) wc)))))))) (wa 0 wc (wa 0 wc (wa 0 wc (wa 0 (wa 0 wc (wa 2 wc (wa 8 wo (wa 41 (wa 10 wo
  wc) wc)))) (wa 0 wc (wa 0 wc (wa 0 wc (wa 0 wc (wa 2 wc (wa 8 wo (wa 41 (wa 10 wo wc) wc)))))))))))))) wc))))))))) (wa 0 wc (wa 0 wc (wa 0 wc (wa 2 wc (wa 2 wc (wa 2 wc (wa 1 wc
  (wa 2 wc (wa 10 wc (wa 2 wc (wa 5 (wa 7 wc (wa 2 wc (wa 6 (wa 0 (wa 0 wc (wa 2 wc (wa 8 wo (wa 41 (wa 10 wo wc) wc)))) (wa 0 wc (wa 0 wc (wa 0 wc (wa 0 wc (wa 2 wc (wa 8 wo (wa 41
  (wa 10 wo wc) wc)))))))) (wa 0 wc (wa 0 wc (wa 0 wc (wa 0 (wa 0 wc (wa 2 wc (wa 8 wo (wa 41 (wa 10 wo wc) wc)))) (wa 0 wc (wa 0 wc (wa 0 wc (wa 0 wc (wa 2 wc (wa 8 wo (wa 41 (wa 10
  wo wc) wc)))))))))))))) wc))))))))))))))))) (wa 0 wc (wa 2 wc (wa 2 wc (wa 2 wc (wa 1 wc (wa 2 wc (wa 21 (wa 0 (wa 0 wc (wa 2 wc (wa 2 wc (wa 2 wc (wa 1 wc (wa 2 wc (wa 10 wc (wa 2
  wc (wa 5 wc (wa 0 wc (wa 2 wc (wa 3 wc (wa 2 wc (wa 6 (wa 0 (wa 0 wc (wa 2 wc (wa 0 wo (wa 7 wo (wa 30 wc (wa 10 wc (wa 17 (wa 10 wo wc) wc))))))) (wa 0 (wa 0 wc (wa 0 wc (wa 0 wc
  (wa 2 wc (wa 0 wo (wa 7 wo (wa 30 wc (wa 10 wc (wa 17 (wa 10 wo wo) wc))))))))) (wa 0 (wa 0 wc (wa 0 wc (wa 2 wc (wa 0 wo (wa 7 wo (wa 30 wc (wa 10 wc (wa 17 (wa 10 wo wo)
  wc)))))))) (wa 0 wc (wa 0 wc (wa 2 wc (wa 0 wo (wa 7 wo (wa 30 wc (wa 10 wc (wa 17 (wa 10 wo wc) wc))))))))))) (wa 0 (wa 0 (wa 0 (wa 0 wc (wa 0 (wa 0 (wa 0 (wa 4 wo wo) wc) wc)
  wc)) wc) (wa 0 wc (wa 0 (wa 0 wc (wa 2 wc (wa 0 wo (wa 7 wo (wa 30 wc (wa 10 wc (wa 17 (wa 10 wo wc) wo))))))) wc))) (wa 0 (wa 0 wc (wa 0 (wa 0 wc (wa 2 wc (wa 0 wo (wa 7 wo (wa 30
  wc (wa 10 wc (wa 17 (wa 10 wo wc) wo))))))) wc)) (wa 0 wc (wa 0 (wa 0 wc (wa 2 wc (wa 0 wo (wa 7 wo (wa 30 wc (wa 10 wc (wa 17 (wa 10 wo wc) wc))))))) wc)))))))))))))))))) (wa 0
  (wa 0 wc (wa 2 wc (wa 2 wc (wa 2 (wa 5 wc (wa 2 wc (wa 5 wc (wa 0 wc (wa 2 wc (wa 3 wc (wa 2 wc (wa 6 wc (wa 0 (wa 0 (wa 0 (wa 0 wc (wa 0 (wa 0 (wa 0 (wa 4 wo (wa 38 wc (wa 10 wc
  wo))) wc) wc) wc)) wc) (wa 0 wc (wa 0 (wa 0 wc (wa 2 wc (wa 0 wo (wa 7 wo (wa 30 wc (wa 10 wc wo)))))) wc))) (wa 0 (wa 0 wc (wa 0 (wa 0 wc (wa 2 wc (wa 0 wo (wa 7 wo (wa 30 wc (wa
  10 wc wo)))))) wc)) (wa 0 wc (wa 0 (wa 0 wc (wa 2 wc (wa 0 wo (wa 7 wo (wa 30 wc (wa 10 wc wo)))))) wc)))))))))))) (wa 1 wc (wa 2 wc (wa 10 wc (wa 2 wc (wa 5 wc (wa 0 wc (wa 2 wc
  (wa 3 wc (wa 2 wc (wa 6 (wa 0 (wa 0 wc (wa 2 wc (wa 0 wo (wa 7 wo (wa 30 wc (wa 10 wc (wa 17 (wa 10 wc wo) wc))))))) (wa 0 (wa 0 wc (wa 0 wc (wa 0 wc (wa 2 wc (wa 0 wo (wa 7 wo (wa
  30 wc (wa 10 wc (wa 17 (wa 10 wo wc) wc))))))))) (wa 0 (wa 0 wc (wa 0 wc (wa 2 wc (wa 0 wo (wa 7 wo (wa 30 wc (wa 10 wc (wa 17 (wa 10 wc wo) wc)))))))) (wa 0 wc (wa 0 wc (wa 2 wc
  (wa 0 wo (wa 7 wo (wa 30 wc (wa 10 wc (wa 17 (wa 10 wc wo) wc))))))))))) wc)))))))))))))) (wa 0 (wa 0 wc (wa 2 wc (wa 2 wc (wa 2 (wa 5 wc (wa 2 wc (wa 5 wc (wa 0 wc (wa 2 wc (wa 3
  wc (wa 2 wc (wa 6 wc (wa 0 (wa 0 (wa 0 (wa 0 wc (wa 0 (wa 0 (wa 0 (wa 4 wo (wa 38 wc (wa 10 wc wo))) wc) wc) wc)) wc) (wa 0 wc (wa 0 (wa 0 wc (wa 2 wc (wa 0 wo (wa 7 wo (wa 30 wc
  (wa 10 wc wo)))))) wc))) (wa 0 (wa 0 wc (wa 0 (wa 0 wc (wa 2 wc (wa 0 wo (wa 7 wo (wa 30 wc (wa 10 wc wo)))))) wc)) (wa 0 wc (wa 0 (wa 0 wc (wa 2 wc (wa 0 wo (wa 7 wo (wa 30 wc (wa
  10 wc wo)))))) wc)))))))))))) (wa 1 wc (wa 2 wc (wa 10 wc (wa 2 wc (wa 5 wc (wa 0 wc (wa 2 wc (wa 3 wc (wa 2 wc (wa 6 (wa 0 (wa 0 wc (wa 2 wc (wa 0 wo (wa 7 wo (wa 30 wc (wa 10 wc
  (wa 17 (wa 10 wc wo) wc))))))) (wa 0 (wa 0 wc (wa 0 wc (wa 0 wc (wa 2 wc (wa 0 wo (wa 7 wo (wa 30 wc (wa 10 wc (wa 17 (wa 10 wc wo) wc))))))))) (wa 0 (wa 0 wc (wa 0 wc (wa 2 wc (wa
  0 wo (wa 7 wo (wa 30 wc (wa 10 wc (wa 17 (wa 10 wo wc) wc)))))))) (wa 0 wc (wa 0 wc (wa 2 wc (wa 0 wo (wa 7 wo (wa 30 wc (wa 10 wc (wa 17 (wa 10 wc wo) wc)))))))))))
  wc)))))))))))))) (wa 0 wc (wa 2 wc (wa 2 wc (wa 2 wc (wa 1 wc (wa 2 wc (wa 10 wc (wa 2 wc (wa 5 wc (wa 0 wc (wa 2 wc (wa 3 wc (wa 2 wc (wa 6 (wa 0 (wa 0 wc (wa 2 wc (wa 0 wo (wa 7
  wo (wa 30 wc (wa 10 wc (wa 17 (wa 10 wo wc) wc))))))) (wa 0 (wa 0 wc (wa 0 wc (wa 0 wc (wa 2 wc (wa 0 wo (wa 7 wo (wa 30 wc (wa 10 wc (wa 17 (wa 10 wo wo) wc))))))))) (wa 0 (wa 0
  wc (wa 0 wc (wa 2 wc (wa 0 wo (wa 7 wo (wa 30 wc (wa 10 wc (wa 17 (wa 10 wo wo) wc)))))))) (wa 0 wc (wa 0 wc (wa 2 wc (wa 0 wo (wa 7 wo (wa 30 wc (wa 10 wc (wa 17 (wa 10 wo wc)
  wc))))))))))) (wa 0 (wa 0 (wa 0 (wa 0 wc (wa 0 (wa 0 (wa 0 (wa 4 wo wo) wc) wc) wc)) wc) (wa 0 wc (wa 0 (wa 0 wc (wa 2 wc (wa 0 wo (wa 7 wo (wa 30 wc (wa 10 wc (wa 17 (wa 10 wo wc)
  wo))))))) wc))) (wa 0 (wa 0 wc (wa 0 (wa 0 wc (wa 2 wc (wa 0 wo (wa 7 wo (wa 30 wc (wa 10 wc (wa 17 (wa 10 wo wc) wo))))))) wc)) (wa 0 wc (wa 0 (wa 0 wc (wa 2 wc (wa 0 wo (wa 7 wo
  (wa 30 wc (wa 10 wc (wa 17 (wa 10 wo wc) wc))))))) wc))))))))))))))))))))) (wa 0 (wa 0 (wa 0 wc (wa 2 wc (wa 2 (wa 8 wc (wa 2 wc (wa 5 wc (wa 0 wc (wa 2 wc (wa 3 wc (wa 2 wc (wa 6
  (wa 0 wc (wa 0 (wa 0 wc (wa 0 wc (wa 0 wc (wa 2 wc (wa 0 wo (wa 7 wo (wa 30 wc (wa 10 wc wo)))))))) (wa 0 (wa 0 wc (wa 0 wc (wa 2 wc (wa 0 wo (wa 7 wo (wa 30 wc (wa 10 wc wo)))))))
  (wa 0 wc (wa 0 wc (wa 2 wc (wa 0 wo (wa 7 wo (wa 30 wc (wa 10 wc wo)))))))))) (wa 0 (wa 0 (wa 0 (wa 0 wc (wa 0 (wa 0 (wa 0 (wa 4 wo (wa 38 wc (wa 10 wc wo))) wc) wc) wc)) wc) wc)
  wc))))))))) (wa 2 wc (wa 1 wc (wa 2 wc (wa 10 wc (wa 2 wc (wa 5 wc (wa 0 wc (wa 2 wc (wa 3 wc (wa 2 wc (wa 6 (wa 0 (wa 0 wc (wa 2 wc (wa 0 wo (wa 7 wo (wa 30 wc (wa 10 wc (wa 17 wc
  wo))))))) wc) (wa 0 (wa 0 wc (wa 0 wc (wa 0 (wa 0 wc (wa 2 wc (wa 0 wo (wa 7 wo (wa 30 wc (wa 10 wc (wa 17 (wa 10 wo wc) wc))))))) wc))) (wa 0 (wa 0 wc (wa 0 (wa 0 wc (wa 2 wc (wa
  0 wo (wa 7 wo (wa 30 wc (wa 10 wc (wa 17 wc wo))))))) wc)) (wa 0 wc (wa 0 (wa 0 wc (wa 2 wc (wa 0 wo (wa 7 wo (wa 30 wc (wa 10 wc (wa 17 wc wo))))))) wc)))))))))))))))))) (wa 0 (wa
  0 wc (wa 2 wc (wa 2 (wa 8 wc (wa 2 wc (wa 5 wc (wa 0 wc (wa 2 wc (wa 3 wc (wa 2 wc (wa 6 (wa 0 wc (wa 0 (wa 0 wc (wa 0 wc (wa 0 wc (wa 2 wc (wa 0 wo (wa 7 wo (wa 30 wc (wa 10 wc
  wo)))))))) (wa 0 (wa 0 wc (wa 0 wc (wa 2 wc (wa 0 wo (wa 7 wo (wa 30 wc (wa 10 wc wo))))))) (wa 0 wc (wa 0 wc (wa 2 wc (wa 0 wo (wa 7 wo (wa 30 wc (wa 10 wc wo)))))))))) (wa 0 (wa
  0 (wa 0 (wa 0 wc (wa 0 (wa 0 (wa 0 (wa 4 wo (wa 38 wc (wa 10 wc wo))) wc) wc) wc)) wc) wc) wc))))))))) (wa 2 (wa 5 wc (wa 2 wc (wa 5 wc (wa 0 wc (wa 2 wc (wa 3 wc (wa 2 wc (wa 6 wc
  (wa 0 (wa 0 wc (wa 0 wc (wa 0 (wa 0 wc (wa 2 wc (wa 0 wo (wa 7 wo (wa 30 wc (wa 10 wc wo)))))) wc))) (wa 0 (wa 0 wc (wa 0 (wa 0 wc (wa 2 wc (wa 0 wo (wa 7 wo (wa 30 wc (wa 10 wc
  wo)))))) wc)) (wa 0 wc (wa 0 (wa 0 wc (wa 2 wc (wa 0 wo (wa 7 wo (wa 30 wc (wa 10 wc wo)))))) wc)))))))))))) (wa 1 wc (wa 2 wc (wa 10 wc (wa 2 wc (wa 5 wc (wa 0 wc (wa 2 wc (wa 3
  wc (wa 2 wc (wa 6 (wa 0 (wa 0 wc (wa 2 wc (wa 0 wo (wa 7 wo (wa 30 wc (wa 10 wc (wa 17 wc wo))))))) wc) wc)))))))))))))) wc)) (wa 0 (wa 0 (wa 0 wc (wa 2 wc (wa 2 (wa 8 wc (wa 2 wc
  (wa 5 wc (wa 0 wc (wa 2 wc (wa 3 wc (wa 2 wc (wa 6 (wa 0 wc (wa 0 (wa 0 wc (wa 0 wc (wa 0 wc (wa 2 wc (wa 0 wo (wa 7 wo (wa 30 wc (wa 10 wc wo)))))))) (wa 0 (wa 0 wc (wa 0 wc (wa 2
  wc (wa 0 wo (wa 7 wo (wa 30 wc (wa 10 wc wo))))))) (wa 0 wc (wa 0 wc (wa 2 wc (wa 0 wo (wa 7 wo (wa 30 wc (wa 10 wc wo)))))))))) (wa 0 (wa 0 (wa 0 (wa 0 wc (wa 0 (wa 0 (wa 0 (wa 4
  wo (wa 38 wc (wa 10 wc wo))) wc) wc) wc)) wc) wc) wc))))))))) (wa 2 wc (wa 1 wc (wa 2 wc (wa 10 wc (wa 2 wc (wa 5 wc (wa 0 wc (wa 2 wc (wa 3 wc (wa 2 wc (wa 6 (wa 0 (wa 0 wc (wa 2
  wc (wa 0 wo (wa 7 wo (wa 30 wc (wa 10 wc (wa 17 wc wo))))))) wc) (wa 0 (wa 0 wc (wa 0 wc (wa 0 (wa 0 wc (wa 2 wc (wa 0 wo (wa 7 wo (wa 30 wc (wa 10 wc (wa 17 wc wo))))))) wc))) (wa
  0 (wa 0 wc (wa 0 (wa 0 wc (wa 2 wc (wa 0 wo (wa 7 wo (wa 30 wc (wa 10 wc (wa 17 (wa 10 wo wc) wc))))))) wc)) (wa 0 wc (wa 0 (wa 0 wc (wa 2 wc (wa 0 wo (wa 7 wo (wa 30 wc (wa 10 wc
  (wa 17 wc wo))))))) wc)))))))))))))))))) wc) (wa 0 (wa 0 wc (wa 2 wc (wa 2 wc (wa 2 wc (wa 1 wc (wa 2 wc (wa 10 wc (wa 2 wc (wa 5 wc (wa 0 wc (wa 2 wc (wa 3 wc (wa 2 wc (wa 6 (wa 0
  (wa 0 wc (wa 2 wc (wa 0 wo (wa 7 wo (wa 30 wc (wa 10 wc (wa 17 (wa 10 wo wc) wc))))))) (wa 0 (wa 0 wc (wa 0 wc (wa 0 wc (wa 2 wc (wa 0 wo (wa 7 wo (wa 30 wc (wa 10 wc (wa 17 (wa 10
  wo wo) wc))))))))) (wa 0 (wa 0 wc (wa 0 wc (wa 2 wc (wa 0 wo (wa 7 wo (wa 30 wc (wa 10 wc (wa 17 (wa 10 wo wo) wc)))))))) (wa 0 wc (wa 0 wc (wa 2 wc (wa 0 wo (wa 7 wo (wa 30 wc (wa
  10 wc (wa 17 (wa 10 wo wc) wc))))))))))) (wa 0 (wa 0 (wa 0 (wa 0 wc (wa 0 (wa 0 (wa 0 (wa 4 wo wo) wc) wc) wc)) wc) (wa 0 wc (wa 0 (wa 0 wc (wa 2 wc (wa 0 wo (wa 7 wo (wa 30 wc (wa
  10 wc (wa 17 (wa 10 wo wc) wo))))))) wc))) (wa 0 (wa 0 wc (wa 0 (wa 0 wc (wa 2 wc (wa 0 wo (wa 7 wo (wa 30 wc (wa 10 wc (wa 17 (wa 10 wo wc) wo))))))) wc)) (wa 0 wc (wa 0 (wa 0 wc
  (wa 2 wc (wa 0 wo (wa 7 wo (wa 30 wc (wa 10 wc (wa 17 (wa 10 wo wc) wc))))))) wc)))))))))))))))))) (wa 0 wc (wa 0 wc (wa 0 wc (wa 2 wc (wa 2 wc (wa 2 wc (wa 1 wc (wa 2 wc (wa 10 wc
  (wa 2 wc (wa 5 wc (wa 0 wc (wa 2 wc (wa 3 wc (wa 2 wc (wa 6 (wa 0 (wa 0 wc (wa 2 wc (wa 0 wo (wa 7 wo (wa 30 wc (wa 10 wc (wa 17 (wa 10 wo wc) wc))))))) (wa 0 (wa 0 wc (wa 0 wc (wa
  0 wc (wa 2 wc (wa 0 wo (wa 7 wo (wa 30 wc (wa 10 wc (wa 17 (wa 10 wo wo) wc))))))))) (wa 0 (wa 0 wc (wa 0 wc (wa 2 wc (wa 0 wo (wa 7 wo (wa 30 wc (wa 10 wc (wa 17 (wa 10 wo wo)
  wc)))))))) (wa 0 wc (wa 0 wc (wa 2 wc (wa 0 wo (wa 7 wo (wa 30 wc (wa 10 wc (wa 17 (wa 10 wo wc) wc))))))))))) (wa 0 (wa 0 (wa 0 (wa 0 wc (wa 0 (wa 0 (wa 0 (wa 4 wo wo) wc) wc)
  wc)) wc) (wa 0 wc (wa 0 (wa 0 wc (wa 2 wc (wa 0 wo (wa 7 wo (wa 30 wc (wa 10 wc (wa 17 (wa 10 wo wc) wo))))))) wc))) (wa 0 (wa 0 wc (wa 0 (wa 0 wc (wa 2 wc (wa 0 wo (wa 7 wo (wa 30
  wc (wa 10 wc (wa 17 (wa 10 wo wc) wo))))))) wc)) (wa 0 wc (wa 0 (wa 0 wc (wa 2 wc (wa 0 wo (wa 7 wo (wa 30 wc (wa 10 wc (wa 17 (wa 10 wo wc) wc)))))))
  wc)))))))))))))))))))))))))))))))))))) wc) wo) wo) wo))) wc) wo) wo) wo)) =
  nd (a.1 == 1 && a.2 == 0) (nd (b.1 == 1 && b.2 == 0) (nd (decide (a.1 > a.2)) tT td) (nd (decide (b.1 ≤ b.2)) (nd (decide (b.1 ≥ -2147483648)) (nd (decide (b.1 ≤ 2147483647)) (nd
  (decide (b.2 ≥ -2147483648)) (nd (!decide (b.2 ≤ 2147483647)) tT (nd (decide (a.1 > a.2)) tT td)) td) tT) tT) tT)) (nd (decide (a.1 ≤ a.2)) (nd (decide (a.1 ≥ -2147483648)) (nd
  (decide (a.1 ≤ 2147483647)) (nd (decide (a.2 ≥ -2147483648)) (nd (!decide (a.2 ≤ 2147483647)) tT (nd (b.1 == 1 && b.2 == 0) (nd (decide (a.1 > a.2)) td (nd (decide (b.1 > b.2)) tT
  td)) (nd (decide (b.1 ≤ b.2)) (nd (decide (b.1 ≥ -2147483648)) (nd (decide (b.1 ≤ 2147483647)) (nd (decide (b.2 ≥ -2147483648)) (nd (!decide (b.2 ≤ 2147483647)) tT (nd (decide (a.1
  > a.2)) td (nd (decide (b.1 > b.2)) td (nd (decide (a.1 > a.2)) td (nd (decide (b.1 > b.2)) td (nd (decide ((if b.1 > a.1 then b.1 else a.1) > if b.2 < a.2 then b.2 else a.2)) (nd
  (decide (a.1 > a.2)) td (nd (decide (b.1 > b.2)) td (nd (b.1 != b.2) (nd (a.1 != a.2) (nd (decide (a.1 > a.2)) td (nd (decide (b.1 > b.2)) td (nd (decide (a.1 > a.2)) td (nd
  (decide (b.1 > b.2)) td (nd (decide (a.1 > a.2)) td (nd (decide (b.1 > b.2)) td (nd (decide (a.1 > a.2)) td (nd (decide (b.1 > b.2)) td (nd (decide ((if b.1 > a.1 then b.1 else
  a.1) > if b.2 < a.2 then b.2 else a.2)) (nd (decide (a.1 > a.2)) td (nd (decide (b.1 > b.2)) td (nd (b.1 != b.2) (nd (a.1 != a.2) (nd (decide (a.1 > a.2)) td (nd (decide (b.1 >
  b.2)) td (nd (!true == !decide (a.1 > a.2)) (Tr.leaf (AV.bool false) ⟨[], 0⟩) (nd (a.1 == a.1 && a.2 == a.2) (nd (b.1 == b.1 && b.2 == b.2) (Tr.leaf (AV.bool !false) ⟨[], 0⟩) td)
  td)))) (nd (a.1 == b.1) td (nd (a.1 == b.2) td (nd (decide (b.1 > b.2)) td (nd (decide (a.1 > a.2)) td (nd (decide (b.1 > b.2)) td (nd (!true == !decide (a.1 > a.2)) (Tr.leaf
  (AV.bool false) ⟨[], 0⟩) (nd (a.1 == a.1 && a.2 == a.2) (nd (b.1 == b.1 && b.2 == b.2) (Tr.leaf (AV.bool !false) ⟨[], 0⟩) td) td)))))))) (nd (b.1 == a.1) td (nd (b.1 == a.2) td (nd
  (decide (a.1 > a.2)) td (nd (a.1 != a.2) (nd (decide (a.1 > a.2)) td (nd (decide (b.1 > b.2)) td (nd (!true == !decide (a.1 > a.2)) (Tr.leaf (AV.bool false) ⟨[], 0⟩) (nd (a.1 ==
  a.1 && a.2 == a.2) (nd (b.1 == b.1 && b.2 == b.2) (Tr.leaf (AV.bool !false) ⟨[], 0⟩) td) td)))) (nd (a.1 == b.1) td (nd (a.1 == b.2) td (nd (decide (b.1 > b.2)) td (nd (decide (a.1
  > a.2)) td (nd (decide (b.1 > b.2)) td (nd (!true == !decide (a.1 > a.2)) (Tr.leaf (AV.bool false) ⟨[], 0⟩) (nd (a.1 == a.1 && a.2 == a.2) (nd (b.1 == b.1 && b.2 == b.2) (Tr.leaf
  (AV.bool !false) ⟨[], 0⟩) td) td)))))))))))))) td))))))))) (nd (b.1 == a.1) (nd (decide (a.1 > a.2)) td (nd (decide (b.1 > b.2)) td (nd (decide (a.1 > a.2)) td (nd (decide
  (IntKind.i64.wrap (b.1 + 1) > b.2)) (nd (decide (a.1 > a.2)) td (nd (decide (b.1 > b.2)) td (nd (decide ((if b.1 > a.1 then b.1 else a.1) > if b.2 < a.2 then b.2 else a.2)) (nd
  (decide (a.1 > a.2)) td (nd (decide (b.1 > b.2)) td (nd (b.1 != b.2) td (nd (b.1 == a.1) td (nd (b.1 == a.2) td (nd (decide (a.1 > a.2)) td (nd (a.1 != a.2) (nd (decide (a.1 >
  a.2)) td (nd (decide (b.1 > b.2)) td (nd (!false == !decide (a.1 > a.2)) (Tr.leaf (AV.bool false) ⟨[], 0⟩) (Tr.leaf (AV.bool !false) ⟨[], 0⟩)))) (nd (a.1 == b.1) td (nd (a.1 ==
  b.2) td (nd (decide (b.1 > b.2)) td (nd (decide (a.1 > a.2)) td (nd (decide (b.1 > b.2)) td (nd (!false == !decide (a.1 > a.2)) (Tr.leaf (AV.bool false) ⟨[], 0⟩) (Tr.leaf (AV.bool
  !false) ⟨[], 0⟩)))))))))))))) td))) (nd (decide (a.1 > a.2)) td (nd (decide (IntKind.i64.wrap (b.1 + 1) > b.2)) td (nd (decide (a.1 > a.2)) td (nd (decide (b.1 > b.2)) td (nd
  (decide ((if b.1 > a.1 then b.1 else a.1) > if b.2 < a.2 then b.2 else a.2)) (nd (decide (a.1 > a.2)) td (nd (decide (b.1 > b.2)) td (nd (b.1 != b.2) (nd (a.1 != a.2) (nd (decide
  (a.1 > a.2)) td (nd (decide (b.1 > b.2)) td (nd (!true == !decide (a.1 > a.2)) (Tr.leaf (AV.bool false) ⟨[], 0⟩) (nd (a.1 == a.1 && a.2 == a.2) (nd (IntKind.i64.wrap (b.1 + 1) ==
  b.1 && b.2 == b.2) td (Tr.leaf (AV.bool false) ⟨[], 0⟩)) td)))) (nd (a.1 == b.1) td (nd (a.1 == b.2) td (nd (decide (b.1 > b.2)) td (nd (decide (a.1 > a.2)) td (nd (decide (b.1 >
  b.2)) td (nd (!true == !decide (a.1 > a.2)) (Tr.leaf (AV.bool false) ⟨[], 0⟩) (nd (a.1 == a.1 && a.2 == a.2) (nd (IntKind.i64.wrap (b.1 + 1) == b.1 && b.2 == b.2) td (Tr.leaf
  (AV.bool false) ⟨[], 0⟩)) td)))))))) td))) td))))))))) (nd (b.2 == a.1) (nd (decide (a.1 > a.2)) td (nd (decide (b.1 > b.2)) td (nd (decide (a.1 > a.2)) td (nd (decide (b.1 >
  IntKind.i64.wrap (b.2 - 1))) (nd (decide (a.1 > a.2)) td (nd (decide (b.1 > b.2)) td (nd (decide ((if b.1 > a.1 then b.1 else a.1) > if b.2 < a.2 then b.2 else a.2)) (nd (decide
  (a.1 > a.2)) td (nd (decide (b.1 > b.2)) td (nd (b.1 != b.2) td (nd (b.1 == a.1) td (nd (b.1 == a.2) td (nd (decide (a.1 > a.2)) td (nd (a.1 != a.2) (nd (decide (a.1 > a.2)) td (nd
  (decide (b.1 > b.2)) td (nd (!false == !decide (a.1 > a.2)) (Tr.leaf (AV.bool false) ⟨[], 0⟩) (Tr.leaf (AV.bool !false) ⟨[], 0⟩)))) (nd (a.1 == b.1) td (nd (a.1 == b.2) td (nd
  (decide (b.1 > b.2)) td (nd (decide (a.1 > a.2)) td (nd (decide (b.1 > b.2)) td (nd (!false == !decide (a.1 > a.2)) (Tr.leaf (AV.bool false) ⟨[], 0⟩) (Tr.leaf (AV.bool !false) ⟨[],
  0⟩)))))))))))))) td))) (nd (decide (a.1 > a.2)) td (nd (decide (b.1 > IntKind.i64.wrap (b.2 - 1))) td (nd (decide (a.1 > a.2)) td (nd (decide (b.1 > b.2)) td (nd (decide ((if b.1 >
  a.1 then b.1 else a.1) > if b.2 < a.2 then b.2 else a.2)) (nd (decide (a.1 > a.2)) td (nd (decide (b.1 > b.2)) td (nd (b.1 != b.2) (nd (a.1 != a.2) (nd (decide (a.1 > a.2)) td (nd
  (decide (b.1 > b.2)) td (nd (!true == !decide (a.1 > a.2)) (Tr.leaf (AV.bool false) ⟨[], 0⟩) (nd (a.1 == a.1 && a.2 == a.2) (nd (b.1 == b.1 && IntKind.i64.wrap (b.2 - 1) == b.2) td
  (Tr.leaf (AV.bool false) ⟨[], 0⟩)) td)))) (nd (a.1 == b.1) td (nd (a.1 == b.2) td (nd (decide (b.1 > b.2)) td (nd (decide (a.1 > a.2)) td (nd (decide (b.1 > b.2)) td (nd (!true ==
  !decide (a.1 > a.2)) (Tr.leaf (AV.bool false) ⟨[], 0⟩) (nd (a.1 == a.1 && a.2 == a.2) (nd (b.1 == b.1 && IntKind.i64.wrap (b.2 - 1) == b.2) td (Tr.leaf (AV.bool false) ⟨[], 0⟩))
  td)))))))) td))) td))))))))) (nd (decide (a.1 > a.2)) td (nd (decide (b.1 > b.2)) td (nd (decide (a.1 > a.2)) td (nd (decide (b.1 > b.2)) td (nd (decide (a.1 > a.2)) td (nd (decide
  (b.1 > b.2)) td (nd (decide (a.1 > a.2)) td (nd (decide (b.1 > b.2)) td (nd (decide ((if b.1 > a.1 then b.1 else a.1) > if b.2 < a.2 then b.2 else a.2)) (nd (decide (a.1 > a.2)) td
  (nd (decide (b.1 > b.2)) td (nd (b.1 != b.2) (nd (a.1 != a.2) (nd (decide (a.1 > a.2)) td (nd (decide (b.1 > b.2)) td (nd (!true == !decide (a.1 > a.2)) (Tr.leaf (AV.bool false)
  ⟨[], 0⟩) (nd (a.1 == a.1 && a.2 == a.2) (nd (b.1 == b.1 && b.2 == b.2) (Tr.leaf (AV.bool !false) ⟨[], 0⟩) td) td)))) (nd (a.1 == b.1) td (nd (a.1 == b.2) td (nd (decide (b.1 >
  b.2)) td (nd (decide (a.1 > a.2)) td (nd (decide (b.1 > b.2)) td (nd (!true == !decide (a.1 > a.2)) (Tr.leaf (AV.bool false) ⟨[], 0⟩) (nd (a.1 == a.1 && a.2 == a.2) (nd (b.1 == b.1
  && b.2 == b.2) (Tr.leaf (AV.bool !false) ⟨[], 0⟩) td) td)))))))) (nd (b.1 == a.1) td (nd (b.1 == a.2) td (nd (decide (a.1 > a.2)) td (nd (a.1 != a.2) (nd (decide (a.1 > a.2)) td
  (nd (decide (b.1 > b.2)) td (nd (!true == !decide (a.1 > a.2)) (Tr.leaf (AV.bool false) ⟨[], 0⟩) (nd (a.1 == a.1 && a.2 == a.2) (nd (b.1 == b.1 && b.2 == b.2) (Tr.leaf (AV.bool
  !false) ⟨[], 0⟩) td) td)))) (nd (a.1 == b.1) td (nd (a.1 == b.2) td (nd (decide (b.1 > b.2)) td (nd (decide (a.1 > a.2)) td (nd (decide (b.1 > b.2)) td (nd (!true == !decide (a.1 >
  a.2)) (Tr.leaf (AV.bool false) ⟨[], 0⟩) (nd (a.1 == a.1 && a.2 == a.2) (nd (b.1 == b.1 && b.2 == b.2) (Tr.leaf (AV.bool !false) ⟨[], 0⟩) td) td)))))))))))))) td)))))))))))) (nd
  (a.1 == b.1) (nd (a.1 != a.2) (nd (decide (a.1 > a.2)) td (nd (decide (b.1 > b.2)) td (nd (decide (IntKind.i64.wrap (a.1 + 1) > a.2)) (nd (decide (a.1 > a.2)) td (nd (decide (b.1 >
  b.2)) td (nd (decide ((if b.1 > a.1 then b.1 else a.1) > if b.2 < a.2 then b.2 else a.2)) (nd (decide (a.1 > a.2)) td (nd (decide (b.1 > b.2)) td (nd (b.1 != b.2) (nd (a.1 != a.2)
  td (nd (a.1 == b.1) td (nd (a.1 == b.2) td (nd (decide (b.1 > b.2)) td (nd (decide (a.1 > a.2)) td (nd (decide (b.1 > b.2)) td (nd (!false == !decide (a.1 > a.2)) (Tr.leaf (AV.bool
  false) ⟨[], 0⟩) (Tr.leaf (AV.bool !false) ⟨[], 0⟩)))))))) (nd (b.1 == a.1) td (nd (b.1 == a.2) td (nd (decide (a.1 > a.2)) td (nd (a.1 != a.2) td (nd (a.1 == b.1) td (nd (a.1 ==
  b.2) td (nd (decide (b.1 > b.2)) td (nd (decide (a.1 > a.2)) td (nd (decide (b.1 > b.2)) td (nd (!false == !decide (a.1 > a.2)) (Tr.leaf (AV.bool false) ⟨[], 0⟩) (Tr.leaf (AV.bool
  !false) ⟨[], 0⟩)))))))))))))) td))) (nd (decide (b.1 > b.2)) td (nd (decide (IntKind.i64.wrap (a.1 + 1) > a.2)) td (nd (decide (b.1 > b.2)) td (nd (decide (a.1 > a.2)) td (nd
  (decide (b.1 > b.2)) td (nd (decide ((if b.1 > a.1 then b.1 else a.1) > if b.2 < a.2 then b.2 else a.2)) (nd (decide (a.1 > a.2)) td (nd (decide (b.1 > b.2)) td (nd (b.1 != b.2)
  (nd (a.1 != a.2) (nd (decide (a.1 > a.2)) td (nd (decide (b.1 > b.2)) td (nd (!true == !decide (a.1 > a.2)) (Tr.leaf (AV.bool false) ⟨[], 0⟩) (nd (IntKind.i64.wrap (a.1 + 1) == a.1
  && a.2 == a.2) td (Tr.leaf (AV.bool false) ⟨[], 0⟩))))) td) (nd (b.1 == a.1) td (nd (b.1 == a.2) td (nd (decide (a.1 > a.2)) td (nd (a.1 != a.2) (nd (decide (a.1 > a.2)) td (nd
  (decide (b.1 > b.2)) td (nd (!true == !decide (a.1 > a.2)) (Tr.leaf (AV.bool false) ⟨[], 0⟩) (nd (IntKind.i64.wrap (a.1 + 1) == a.1 && a.2 == a.2) td (Tr.leaf (AV.bool false) ⟨[],
  0⟩))))) td))))))) td))))))))) (nd (b.1 == a.1) (nd (decide (a.1 > a.2)) td (nd (decide (b.1 > b.2)) td (nd (decide (IntKind.i64.wrap (a.1 + 1) > a.2)) (nd (decide (a.1 > a.2)) td
  (nd (decide (b.1 > b.2)) td (nd (decide ((if b.1 > a.1 then b.1 else a.1) > if b.2 < a.2 then b.2 else a.2)) (nd (decide (a.1 > a.2)) td (nd (decide (b.1 > b.2)) td (nd (b.1 !=
  b.2) (nd (a.1 != a.2) td (nd (a.1 == b.1) td (nd (a.1 == b.2) td (nd (decide (b.1 > b.2)) td (nd (decide (a.1 > a.2)) td (nd (decide (b.1 > b.2)) td (nd (!false == !decide (a.1 >
  a.2)) (Tr.leaf (AV.bool false) ⟨[], 0⟩) (Tr.leaf (AV.bool !false) ⟨[], 0⟩)))))))) (nd (b.1 == a.1) td (nd (b.1 == a.2) td (nd (decide (a.1 > a.2)) td (nd (a.1 != a.2) td (nd (a.1
  == b.1) td (nd (a.1 == b.2) td (nd (decide (b.1 > b.2)) td (nd (decide (a.1 > a.2)) td (nd (decide (b.1 > b.2)) td (nd (!false == !decide (a.1 > a.2)) (Tr.leaf (AV.bool false) ⟨[],
  0⟩) (Tr.leaf (AV.bool !false) ⟨[], 0⟩)))))))))))))) td))) (nd (decide (IntKind.i64.wrap (b.1 + 1) > b.2)) (nd (decide (a.1 > a.2)) td (nd (decide (b.1 > b.2)) td (nd (decide ((if
  b.1 > a.1 then b.1 else a.1) > if b.2 < a.2 then b.2 else a.2)) (nd (decide (a.1 > a.2)) td (nd (decide (b.1 > b.2)) td (nd (b.1 != b.2) td (nd (b.1 == a.1) td (nd (b.1 == a.2) td
  (nd (decide (a.1 > a.2)) td (nd (a.1 != a.2) (nd (decide (a.1 > a.2)) td (nd (decide (b.1 > b.2)) td (nd (!false == !decide (a.1 > a.2)) (Tr.leaf (AV.bool false) ⟨[], 0⟩) (Tr.leaf
  (AV.bool !false) ⟨[], 0⟩)))) td))))))) td))) (nd (decide (IntKind.i64.wrap (a.1 + 1) > a.2)) td (nd (decide (IntKind.i64.wrap (b.1 + 1) > b.2)) td (nd (decide (a.1 > a.2)) td (nd
  (decide (b.1 > b.2)) td (nd (decide ((if b.1 > a.1 then b.1 else a.1) > if b.2 < a.2 then b.2 else a.2)) (nd (decide (a.1 > a.2)) td (nd (decide (b.1 > b.2)) td (nd (b.1 != b.2)
  (nd (a.1 != a.2) (nd (decide (a.1 > a.2)) td (nd (decide (b.1 > b.2)) td (nd (!true == !decide (a.1 > a.2)) (Tr.leaf (AV.bool false) ⟨[], 0⟩) (nd (IntKind.i64.wrap (a.1 + 1) == a.1
  && a.2 == a.2) td (Tr.leaf (AV.bool false) ⟨[], 0⟩))))) td) td))) td))))))))) td)) (nd (a.2 == b.1) (nd (a.1 != a.2) (nd (decide (a.1 > a.2)) td (nd (decide (b.1 > b.2)) td (nd
  (decide (a.1 > IntKind.i64.wrap (a.2 - 1))) (nd (decide (a.1 > a.2)) td (nd (decide (b.1 > b.2)) td (nd (decide ((if b.1 > a.1 then b.1 else a.1) > if b.2 < a.2 then b.2 else a.2))
  (nd (decide (a.1 > a.2)) td (nd (decide (b.1 > b.2)) td (nd (b.1 != b.2) (nd (a.1 != a.2) td (nd (a.1 == b.1) td (nd (a.1 == b.2) td (nd (decide (b.1 > b.2)) td (nd (decide (a.1 >
  a.2)) td (nd (decide (b.1 > b.2)) td (nd (!false == !decide (a.1 > a.2)) (Tr.leaf (AV.bool false) ⟨[], 0⟩) (Tr.leaf (AV.bool !false) ⟨[], 0⟩)))))))) (nd (b.1 == a.1) td (nd (b.1 ==
  a.2) td (nd (decide (a.1 > a.2)) td (nd (a.1 != a.2) td (nd (a.1 == b.1) td (nd (a.1 == b.2) td (nd (decide (b.1 > b.2)) td (nd (decide (a.1 > a.2)) td (nd (decide (b.1 > b.2)) td
  (nd (!false == !decide (a.1 > a.2)) (Tr.leaf (AV.bool false) ⟨[], 0⟩) (Tr.leaf (AV.bool !false) ⟨[], 0⟩)))))))))))))) td))) (nd (decide (b.1 > b.2)) td (nd (decide (a.1 >
  IntKind.i64.wrap (a.2 - 1))) td (nd (decide (b.1 > b.2)) td (nd (decide (a.1 > a.2)) td (nd (decide (b.1 > b.2)) td (nd (decide ((if b.1 > a.1 then b.1 else a.1) > if b.2 < a.2
  then b.2 else a.2)) (nd (decide (a.1 > a.2)) td (nd (decide (b.1 > b.2)) td (nd (b.1 != b.2) (nd (a.1 != a.2) (nd (decide (a.1 > a.2)) td (nd (decide (b.1 > b.2)) td (nd (!true ==
  !decide (a.1 > a.2)) (Tr.leaf (AV.bool false) ⟨[], 0⟩) (nd (a.1 == a.1 && IntKind.i64.wrap (a.2 - 1) == a.2) td (Tr.leaf (AV.bool false) ⟨[], 0⟩))))) td) (nd (b.1 == a.1) td (nd
  (b.1 == a.2) td (nd (decide (a.1 > a.2)) td (nd (a.1 != a.2) (nd (decide (a.1 > a.2)) td (nd (decide (b.1 > b.2)) td (nd (!true == !decide (a.1 > a.2)) (Tr.leaf (AV.bool false)
  ⟨[], 0⟩) (nd (a.1 == a.1 && IntKind.i64.wrap (a.2 - 1) == a.2) td (Tr.leaf (AV.bool false) ⟨[], 0⟩))))) td))))))) td))))))))) td) (nd (a.1 != a.2) (nd (decide (a.1 > a.2)) td (nd
  (decide (b.1 > b.2)) td (nd (decide (a.1 > a.2)) td (nd (decide (b.1 > b.2)) td (nd (decide (a.1 > a.2)) td (nd (decide (b.1 > b.2)) td (nd (decide (a.1 > a.2)) td (nd (decide (b.1
  > b.2)) td (nd (decide ((if b.1 > a.1 then b.1 else a.1) > if b.2 < a.2 then b.2 else a.2)) (nd (decide (a.1 > a.2)) td (nd (decide (b.1 > b.2)) td (nd (b.1 != b.2) (nd (a.1 !=
  a.2) (nd (decide (a.1 > a.2)) td (nd (decide (b.1 > b.2)) td (nd (!true == !decide (a.1 > a.2)) (Tr.leaf (AV.bool false) ⟨[], 0⟩) (nd (a.1 == a.1 && a.2 == a.2) (nd (b.1 == b.1 &&
  b.2 == b.2) (Tr.leaf (AV.bool !false) ⟨[], 0⟩) td) td)))) (nd (a.1 == b.1) td (nd (a.1 == b.2) td (nd (decide (b.1 > b.2)) td (nd (decide (a.1 > a.2)) td (nd (decide (b.1 > b.2))
  td (nd (!true == !decide (a.1 > a.2)) (Tr.leaf (AV.bool false) ⟨[], 0⟩) (nd (a.1 == a.1 && a.2 == a.2) (nd (b.1 == b.1 && b.2 == b.2) (Tr.leaf (AV.bool !false) ⟨[], 0⟩) td)
  td)))))))) (nd (b.1 == a.1) td (nd (b.1 == a.2) td (nd (decide (a.1 > a.2)) td (nd (a.1 != a.2) (nd (decide (a.1 > a.2)) td (nd (decide (b.1 > b.2)) td (nd (!true == !decide (a.1 >
  a.2)) (Tr.leaf (AV.bool false) ⟨[], 0⟩) (nd (a.1 == a.1 && a.2 == a.2) (nd (b.1 == b.1 && b.2 == b.2) (Tr.leaf (AV.bool !false) ⟨[], 0⟩) td) td)))) (nd (a.1 == b.1) td (nd (a.1 ==
  b.2) td (nd (decide (b.1 > b.2)) td (nd (decide (a.1 > a.2)) td (nd (decide (b.1 > b.2)) td (nd (!true == !decide (a.1 > a.2)) (Tr.leaf (AV.bool false) ⟨[], 0⟩) (nd (a.1 == a.1 &&
  a.2 == a.2) (nd (b.1 == b.1 && b.2 == b.2) (Tr.leaf (AV.bool !false) ⟨[], 0⟩) td) td)))))))))))))) td))))))))) (nd (b.1 == a.1) td (nd (b.2 == a.1) td (nd (decide (a.1 > a.2)) td
  (nd (decide (b.1 > b.2)) td (nd (decide (a.1 > a.2)) td (nd (decide (b.1 > b.2)) td (nd (decide (a.1 > a.2)) td (nd (decide (b.1 > b.2)) td (nd (decide (a.1 > a.2)) td (nd (decide
  (b.1 > b.2)) td (nd (decide ((if b.1 > a.1 then b.1 else a.1) > if b.2 < a.2 then b.2 else a.2)) (nd (decide (a.1 > a.2)) td (nd (decide (b.1 > b.2)) td (nd (b.1 != b.2) (nd (a.1
  != a.2) (nd (decide (a.1 > a.2)) td (nd (decide (b.1 > b.2)) td (nd (!true == !decide (a.1 > a.2)) (Tr.leaf (AV.bool false) ⟨[], 0⟩) (nd (a.1 == a.1 && a.2 == a.2) (nd (b.1 == b.1
  && b.2 == b.2) (Tr.leaf (AV.bool !false) ⟨[], 0⟩) td) td)))) (nd (a.1 == b.1) td (nd (a.1 == b.2) td (nd (decide (b.1 > b.2)) td (nd (decide (a.1 > a.2)) td (nd (decide (b.1 >
  b.2)) td (nd (!true == !decide (a.1 > a.2)) (Tr.leaf (AV.bool false) ⟨[], 0⟩) (nd (a.1 == a.1 && a.2 == a.2) (nd (b.1 == b.1 && b.2 == b.2) (Tr.leaf (AV.bool !false) ⟨[], 0⟩) td)
  td)))))))) (nd (b.1 == a.1) td (nd (b.1 == a.2) td (nd (decide (a.1 > a.2)) td (nd (a.1 != a.2) (nd (decide (a.1 > a.2)) td (nd (decide (b.1 > b.2)) td (nd (!true == !decide (a.1 >
  a.2)) (Tr.leaf (AV.bool false) ⟨[], 0⟩) (nd (a.1 == a.1 && a.2 == a.2) (nd (b.1 == b.1 && b.2 == b.2) (Tr.leaf (AV.bool !false) ⟨[], 0⟩) td) td)))) (nd (a.1 == b.1) td (nd (a.1 ==
  b.2) td (nd (decide (b.1 > b.2)) td (nd (decide (a.1 > a.2)) td (nd (decide (b.1 > b.2)) td (nd (!true == !decide (a.1 > a.2)) (Tr.leaf (AV.bool false) ⟨[], 0⟩) (nd (a.1 == a.1 &&
  a.2 == a.2) (nd (b.1 == b.1 && b.2 == b.2) (Tr.leaf (AV.bool !false) ⟨[], 0⟩) td) td)))))))))))))) td))))))))))))))))) (nd (decide (a.1 > a.2)) td (nd (decide (b.1 > b.2)) td (nd
  (decide ((if b.1 > a.1 then b.1 else a.1) > if b.2 < a.2 then b.2 else a.2)) td (nd (decide ((if b.1 > a.1 then b.1 else a.1) > if b.2 < a.2 then b.2 else a.2)) td (nd (decide ((if
  b.1 > a.1 then b.1 else a.1) > if b.2 < a.2 then b.2 else a.2)) td (nd (decide ((if b.1 > a.1 then b.1 else a.1) > if b.2 < a.2 then b.2 else a.2)) td (nd (b.1 != b.2) (nd (a.1 !=
  a.2) (nd (decide (a.1 > a.2)) td (nd (decide (b.1 > b.2)) td (nd (decide (a.1 > a.2)) td (nd (decide (b.1 > b.2)) td (nd (decide (a.1 > a.2)) td (nd (decide (b.1 > b.2)) td (nd
  (decide (a.1 > a.2)) td (nd (decide (b.1 > b.2)) td (nd (decide ((if b.1 > a.1 then b.1 else a.1) > if b.2 < a.2 then b.2 else a.2)) td (nd (decide ((if b.1 > a.1 then b.1 else
  a.1) > if b.2 < a.2 then b.2 else a.2)) td (nd (decide ((if b.1 > a.1 then b.1 else a.1) > if b.2 < a.2 then b.2 else a.2)) td (nd (decide (a.1 > a.2)) td (nd (decide (b.1 > b.2))
  td (nd (b.1 != b.2) (nd (a.1 != a.2) (nd (decide (a.1 > a.2)) td (nd (decide (b.1 > b.2)) td (nd (!true == !decide ((if b.1 > a.1 then b.1 else a.1) > if b.2 < a.2 then b.2 else
  a.2)) (Tr.leaf (AV.bool false) ⟨[], 0⟩) (nd (!true == !decide (a.1 > a.2)) (Tr.leaf (AV.bool false) ⟨[], 0⟩) (nd (!(((if b.1 > a.1 then b.1 else a.1) == if b.1 > a.1 then b.1 else
  a.1) && (if b.2 < a.2 then b.2 else a.2) == if b.2 < a.2 then b.2 else a.2)) td (nd (!(((if b.1 > a.1 then b.1 else a.1) == if b.1 > a.1 then b.1 else a.1) && (if b.2 < a.2 then
  b.2 else a.2) == if b.2 < a.2 then b.2 else a.2)) td (nd (a.1 == a.1 && a.2 == a.2) (nd (b.1 == b.1 && b.2 == b.2) (Tr.leaf (AV.bool !false) ⟨[], 0⟩) td) td))))))) (nd (a.1 == b.1)
  (nd (a.1 == b.2) td (nd (decide (IntKind.i64.wrap (b.1 + 1) > b.2)) td (nd (decide (a.1 > a.2)) td (nd (decide (IntKind.i64.wrap (b.1 + 1) > b.2)) td (nd (!true == !decide ((if b.1
  > a.1 then b.1 else a.1) > if b.2 < a.2 then b.2 else a.2)) (Tr.leaf (AV.bool false) ⟨[], 0⟩) (nd (!true == !decide (a.1 > a.2)) (Tr.leaf (AV.bool false) ⟨[], 0⟩) (nd (!(((if b.1 >
  a.1 then b.1 else a.1) == if b.1 > a.1 then b.1 else a.1) && (if b.2 < a.2 then b.2 else a.2) == if b.2 < a.2 then b.2 else a.2)) td (nd (!(((if b.1 > a.1 then b.1 else a.1) == if
  b.1 > a.1 then b.1 else a.1) && (if b.2 < a.2 then b.2 else a.2) == if b.2 < a.2 then b.2 else a.2)) td (nd (a.1 == a.1 && a.2 == a.2) (nd (b.1 == IntKind.i64.wrap (b.1 + 1) && b.2
  == b.2) (Tr.leaf (AV.bool !false) ⟨[], 0⟩) (Tr.leaf (AV.bool false) ⟨[], 0⟩)) td))))))))) (nd (a.1 == b.2) (nd (decide (b.1 > IntKind.i64.wrap (b.2 - 1))) td (nd (decide (a.1 >
  a.2)) td (nd (decide (b.1 > IntKind.i64.wrap (b.2 - 1))) td (nd (!true == !decide ((if b.1 > a.1 then b.1 else a.1) > if b.2 < a.2 then b.2 else a.2)) (Tr.leaf (AV.bool false) ⟨[],
  0⟩) (nd (!true == !decide (a.1 > a.2)) (Tr.leaf (AV.bool false) ⟨[], 0⟩) (nd (!(((if b.1 > a.1 then b.1 else a.1) == if b.1 > a.1 then b.1 else a.1) && (if b.2 < a.2 then b.2 else
  a.2) == if b.2 < a.2 then b.2 else a.2)) td (nd (!(((if b.1 > a.1 then b.1 else a.1) == if b.1 > a.1 then b.1 else a.1) && (if b.2 < a.2 then b.2 else a.2) == if b.2 < a.2 then b.2
  else a.2)) td (nd (a.1 == a.1 && a.2 == a.2) (nd (b.1 == b.1 && b.2 == IntKind.i64.wrap (b.2 - 1)) (Tr.leaf (AV.bool !false) ⟨[], 0⟩) (Tr.leaf (AV.bool false) ⟨[], 0⟩)) td))))))))
  (nd (decide (b.1 > b.2)) td (nd (decide (a.1 > a.2)) td (nd (decide (b.1 > b.2)) td (nd (!true == !decide ((if b.1 > a.1 then b.1 else a.1) > if b.2 < a.2 then b.2 else a.2))
  (Tr.leaf (AV.bool false) ⟨[], 0⟩) (nd (!true == !decide (a.1 > a.2)) (Tr.leaf (AV.bool false) ⟨[], 0⟩) (nd (!(((if b.1 > a.1 then b.1 else a.1) == if b.1 > a.1 then b.1 else a.1)
  && (if b.2 < a.2 then b.2 else a.2) == if b.2 < a.2 then b.2 else a.2)) td (nd (!(((if b.1 > a.1 then b.1 else a.1) == if b.1 > a.1 then b.1 else a.1) && (if b.2 < a.2 then b.2
  else a.2) == if b.2 < a.2 then b.2 else a.2)) td (nd (a.1 == a.1 && a.2 == a.2) (nd (b.1 == b.1 && b.2 == b.2) (Tr.leaf (AV.bool !false) ⟨[], 0⟩) td) td))))))))))) (nd (b.1 == a.1)
  (nd (b.1 == a.2) (nd (decide (IntKind.i64.wrap (a.1 + 1) > IntKind.i64.wrap (a.2 - 1))) (nd (a.1 != a.2) td (nd (a.1 == b.1) (nd (a.1 == b.2) (nd (decide (IntKind.i64.wrap (b.1 +
  1) > IntKind.i64.wrap (b.2 - 1))) (nd (!true == !decide ((if b.1 > a.1 then b.1 else a.1) > if b.2 < a.2 then b.2 else a.2)) (Tr.leaf (AV.bool false) ⟨[], 0⟩) (Tr.leaf (AV.bool
  false) ⟨[], 0⟩)) td) td) td)) td) (nd (decide (IntKind.i64.wrap (a.1 + 1) > a.2)) td (nd (a.1 != a.2) (nd (decide (IntKind.i64.wrap (a.1 + 1) > a.2)) td (nd (decide (b.1 > b.2)) td
  (nd (!true == !decide ((if b.1 > a.1 then b.1 else a.1) > if b.2 < a.2 then b.2 else a.2)) (Tr.leaf (AV.bool false) ⟨[], 0⟩) (nd (!true == !decide (IntKind.i64.wrap (a.1 + 1) >
  a.2)) (Tr.leaf (AV.bool false) ⟨[], 0⟩) (nd (!(((if b.1 > a.1 then b.1 else a.1) == if b.1 > a.1 then b.1 else a.1) && (if b.2 < a.2 then b.2 else a.2) == if b.2 < a.2 then b.2
  else a.2)) td (nd (!(((if b.1 > a.1 then b.1 else a.1) == if b.1 > a.1 then b.1 else a.1) && (if b.2 < a.2 then b.2 else a.2) == if b.2 < a.2 then b.2 else a.2)) td (nd (a.1 ==
  IntKind.i64.wrap (a.1 + 1) && a.2 == a.2) (nd (b.1 == b.1 && b.2 == b.2) (Tr.leaf (AV.bool !false) ⟨[], 0⟩) td) (Tr.leaf (AV.bool false) ⟨[], 0⟩)))))))) td))) (nd (b.1 == a.2) (nd
  (decide (a.1 > IntKind.i64.wrap (a.2 - 1))) td (nd (a.1 != a.2) (nd (decide (a.1 > IntKind.i64.wrap (a.2 - 1))) td (nd (decide (b.1 > b.2)) td (nd (!true == !decide ((if b.1 > a.1
  then b.1 else a.1) > if b.2 < a.2 then b.2 else a.2)) (Tr.leaf (AV.bool false) ⟨[], 0⟩) (nd (!true == !decide (a.1 > IntKind.i64.wrap (a.2 - 1))) (Tr.leaf (AV.bool false) ⟨[], 0⟩)
  (nd (!(((if b.1 > a.1 then b.1 else a.1) == if b.1 > a.1 then b.1 else a.1) && (if b.2 < a.2 then b.2 else a.2) == if b.2 < a.2 then b.2 else a.2)) td (nd (!(((if b.1 > a.1 then
  b.1 else a.1) == if b.1 > a.1 then b.1 else a.1) && (if b.2 < a.2 then b.2 else a.2) == if b.2 < a.2 then b.2 else a.2)) td (nd (a.1 == a.1 && a.2 == IntKind.i64.wrap (a.2 - 1))
  (nd (b.1 == b.1 && b.2 == b.2) (Tr.leaf (AV.bool !false) ⟨[], 0⟩) td) (Tr.leaf (AV.bool false) ⟨[], 0⟩)))))))) td)) (nd (decide (a.1 > a.2)) td (nd (a.1 != a.2) (nd (decide (a.1 >
  a.2)) td (nd (decide (b.1 > b.2)) td (nd (!true == !decide ((if b.1 > a.1 then b.1 else a.1) > if b.2 < a.2 then b.2 else a.2)) (Tr.leaf (AV.bool false) ⟨[], 0⟩) (nd (!true ==
  !decide (a.1 > a.2)) (Tr.leaf (AV.bool false) ⟨[], 0⟩) (nd (!(((if b.1 > a.1 then b.1 else a.1) == if b.1 > a.1 then b.1 else a.1) && (if b.2 < a.2 then b.2 else a.2) == if b.2 <
  a.2 then b.2 else a.2)) td (nd (!(((if b.1 > a.1 then b.1 else a.1) == if b.1 > a.1 then b.1 else a.1) && (if b.2 < a.2 then b.2 else a.2) == if b.2 < a.2 then b.2 else a.2)) td
  (nd (a.1 == a.1 && a.2 == a.2) (nd (b.1 == b.1 && b.2 == b.2) (Tr.leaf (AV.bool !false) ⟨[], 0⟩) td) td))))))) td)))))))))))))))))) (nd (b.1 == a.1) (nd (decide (a.1 > a.2)) td (nd
  (decide (b.1 > b.2)) td (nd (decide (a.1 > a.2)) td (nd (decide (IntKind.i64.wrap (b.1 + 1) > b.2)) (nd (decide (a.1 > a.2)) td (nd (decide (b.1 > b.2)) td (nd (decide ((if b.1 >
  a.1 then b.1 else a.1) > if b.2 < a.2 then b.2 else a.2)) td (nd (decide ((if b.1 > a.1 then b.1 else a.1) > if b.2 < a.2 then b.2 else a.2)) td (nd (decide ((if b.1 > a.1 then b.1
  else a.1) > if b.2 < a.2 then b.2 else a.2)) td (nd (decide (a.1 > a.2)) td (nd (decide (b.1 > b.2)) td (nd (b.1 != b.2) td (nd (b.1 == a.1) (nd (b.1 == a.2) (nd (decide
  (IntKind.i64.wrap (a.1 + 1) > IntKind.i64.wrap (a.2 - 1))) (nd (a.1 != a.2) td (nd (a.1 == b.1) (nd (a.1 == b.2) (nd (decide (IntKind.i64.wrap (b.1 + 1) > IntKind.i64.wrap (b.2 -
  1))) (nd (!true == !decide ((if b.1 > a.1 then b.1 else a.1) > if b.2 < a.2 then b.2 else a.2)) (Tr.leaf (AV.bool false) ⟨[], 0⟩) (nd (!(((if b.1 > a.1 then b.1 else a.1) == if b.1
  > a.1 then b.1 else a.1) && (if b.2 < a.2 then b.2 else a.2) == if b.2 < a.2 then b.2 else a.2)) td (nd (!(((if b.1 > a.1 then b.1 else a.1) == if b.1 > a.1 then b.1 else a.1) &&
  (if b.2 < a.2 then b.2 else a.2) == if b.2 < a.2 then b.2 else a.2)) td (Tr.leaf (AV.bool !false) ⟨[], 0⟩)))) td) td) td)) td) (nd (decide (IntKind.i64.wrap (a.1 + 1) > a.2)) td
  (nd (a.1 != a.2) (nd (decide (IntKind.i64.wrap (a.1 + 1) > a.2)) td (nd (decide (b.1 > b.2)) td (nd (!true == !decide ((if b.1 > a.1 then b.1 else a.1) > if b.2 < a.2 then b.2 else
  a.2)) (Tr.leaf (AV.bool false) ⟨[], 0⟩) (nd (!false == !decide (IntKind.i64.wrap (a.1 + 1) > a.2)) (Tr.leaf (AV.bool false) ⟨[], 0⟩) (nd (!(((if b.1 > a.1 then b.1 else a.1) == if
  b.1 > a.1 then b.1 else a.1) && (if b.2 < a.2 then b.2 else a.2) == if b.2 < a.2 then b.2 else a.2)) td (nd (!(((if b.1 > a.1 then b.1 else a.1) == if b.1 > a.1 then b.1 else a.1)
  && (if b.2 < a.2 then b.2 else a.2) == if b.2 < a.2 then b.2 else a.2)) td (Tr.leaf (AV.bool !false) ⟨[], 0⟩))))))) td))) (nd (b.1 == a.2) (nd (decide (a.1 > IntKind.i64.wrap (a.2
  - 1))) td (nd (a.1 != a.2) (nd (decide (a.1 > IntKind.i64.wrap (a.2 - 1))) td (nd (decide (b.1 > b.2)) td (nd (!true == !decide ((if b.1 > a.1 then b.1 else a.1) > if b.2 < a.2
  then b.2 else a.2)) (Tr.leaf (AV.bool false) ⟨[], 0⟩) (nd (!false == !decide (a.1 > IntKind.i64.wrap (a.2 - 1))) (Tr.leaf (AV.bool false) ⟨[], 0⟩) (nd (!(((if b.1 > a.1 then b.1
  else a.1) == if b.1 > a.1 then b.1 else a.1) && (if b.2 < a.2 then b.2 else a.2) == if b.2 < a.2 then b.2 else a.2)) td (nd (!(((if b.1 > a.1 then b.1 else a.1) == if b.1 > a.1
  then b.1 else a.1) && (if b.2 < a.2 then b.2 else a.2) == if b.2 < a.2 then b.2 else a.2)) td (Tr.leaf (AV.bool !false) ⟨[], 0⟩))))))) td)) (nd (decide (a.1 > a.2)) td (nd (a.1 !=
  a.2) (nd (decide (a.1 > a.2)) td (nd (decide (b.1 > b.2)) td (nd (!true == !decide ((if b.1 > a.1 then b.1 else a.1) > if b.2 < a.2 then b.2 else a.2)) (Tr.leaf (AV.bool false)
  ⟨[], 0⟩) (nd (!false == !decide (a.1 > a.2)) (Tr.leaf (AV.bool false) ⟨[], 0⟩) (nd (!(((if b.1 > a.1 then b.1 else a.1) == if b.1 > a.1 then b.1 else a.1) && (if b.2 < a.2 then b.2
  else a.2) == if b.2 < a.2 then b.2 else a.2)) td (nd (!(((if b.1 > a.1 then b.1 else a.1) == if b.1 > a.1 then b.1 else a.1) && (if b.2 < a.2 then b.2 else a.2) == if b.2 < a.2
  then b.2 else a.2)) td (Tr.leaf (AV.bool !false) ⟨[], 0⟩))))))) td)))))))))))) (nd (decide (a.1 > a.2)) td (nd (decide (IntKind.i64.wrap (b.1 + 1) > b.2)) td (nd (decide (a.1 >
  a.2)) td (nd (decide (b.1 > b.2)) td (nd (decide ((if b.1 > a.1 then b.1 else a.1) > if b.2 < a.2 then b.2 else a.2)) td (nd (decide ((if b.1 > a.1 then b.1 else a.1) > if b.2 <
  a.2 then b.2 else a.2)) td (nd (decide ((if b.1 > a.1 then b.1 else a.1) > if b.2 < a.2 then b.2 else a.2)) td (nd (decide (a.1 > a.2)) td (nd (decide (b.1 > b.2)) td (nd (b.1 !=
  b.2) (nd (a.1 != a.2) (nd (decide (a.1 > a.2)) td (nd (decide (b.1 > b.2)) td (nd (!true == !decide ((if b.1 > a.1 then b.1 else a.1) > if b.2 < a.2 then b.2 else a.2)) (Tr.leaf
  (AV.bool false) ⟨[], 0⟩) (nd (!true == !decide (a.1 > a.2)) (Tr.leaf (AV.bool false) ⟨[], 0⟩) (nd (!(((if b.1 > a.1 then b.1 else a.1) == if b.1 > a.1 then b.1 else a.1) && (if b.2
  < a.2 then b.2 else a.2) == if b.2 < a.2 then b.2 else a.2)) td (nd (!(((if b.1 > a.1 then b.1 else a.1) == if b.1 > a.1 then b.1 else a.1) && (if b.2 < a.2 then b.2 else a.2) ==
  if b.2 < a.2 then b.2 else a.2)) td (nd (a.1 == a.1 && a.2 == a.2) (nd (IntKind.i64.wrap (b.1 + 1) == b.1 && b.2 == b.2) td (Tr.leaf (AV.bool false) ⟨[], 0⟩)) td))))))) (nd (a.1 ==
  b.1) (nd (a.1 == b.2) td (nd (decide (IntKind.i64.wrap (b.1 + 1) > b.2)) td (nd (decide (a.1 > a.2)) td (nd (decide (IntKind.i64.wrap (b.1 + 1) > b.2)) td (nd (!true == !decide
  ((if b.1 > a.1 then b.1 else a.1) > if b.2 < a.2 then b.2 else a.2)) (Tr.leaf (AV.bool false) ⟨[], 0⟩) (nd (!true == !decide (a.1 > a.2)) (Tr.leaf (AV.bool false) ⟨[], 0⟩) (nd
  (!(((if b.1 > a.1 then b.1 else a.1) == if b.1 > a.1 then b.1 else a.1) && (if b.2 < a.2 then b.2 else a.2) == if b.2 < a.2 then b.2 else a.2)) td (nd (!(((if b.1 > a.1 then b.1
  else a.1) == if b.1 > a.1 then b.1 else a.1) && (if b.2 < a.2 then b.2 else a.2) == if b.2 < a.2 then b.2 else a.2)) td (nd (a.1 == a.1 && a.2 == a.2) (nd (IntKind.i64.wrap (b.1 +
  1) == IntKind.i64.wrap (b.1 + 1) && b.2 == b.2) (Tr.leaf (AV.bool !false) ⟨[], 0⟩) td) td))))))))) (nd (a.1 == b.2) (nd (decide (b.1 > IntKind.i64.wrap (b.2 - 1))) td (nd (decide
  (a.1 > a.2)) td (nd (decide (b.1 > IntKind.i64.wrap (b.2 - 1))) td (nd (!true == !decide ((if b.1 > a.1 then b.1 else a.1) > if b.2 < a.2 then b.2 else a.2)) (Tr.leaf (AV.bool
  false) ⟨[], 0⟩) (nd (!true == !decide (a.1 > a.2)) (Tr.leaf (AV.bool false) ⟨[], 0⟩) (nd (!(((if b.1 > a.1 then b.1 else a.1) == if b.1 > a.1 then b.1 else a.1) && (if b.2 < a.2
  then b.2 else a.2) == if b.2 < a.2 then b.2 else a.2)) td (nd (!(((if b.1 > a.1 then b.1 else a.1) == if b.1 > a.1 then b.1 else a.1) && (if b.2 < a.2 then b.2 else a.2) == if b.2
  < a.2 then b.2 else a.2)) td (nd (a.1 == a.1 && a.2 == a.2) (nd (IntKind.i64.wrap (b.1 + 1) == b.1 && b.2 == IntKind.i64.wrap (b.2 - 1)) td (Tr.leaf (AV.bool false) ⟨[], 0⟩))
  td)))))))) (nd (decide (b.1 > b.2)) td (nd (decide (a.1 > a.2)) td (nd (decide (b.1 > b.2)) td (nd (!true == !decide ((if b.1 > a.1 then b.1 else a.1) > if b.2 < a.2 then b.2 else
  a.2)) (Tr.leaf (AV.bool false) ⟨[], 0⟩) (nd (!true == !decide (a.1 > a.2)) (Tr.leaf (AV.bool false) ⟨[], 0⟩) (nd (!(((if b.1 > a.1 then b.1 else a.1) == if b.1 > a.1 then b.1 else
  a.1) && (if b.2 < a.2 then b.2 else a.2) == if b.2 < a.2 then b.2 else a.2)) td (nd (!(((if b.1 > a.1 then b.1 else a.1) == if b.1 > a.1 then b.1 else a.1) && (if b.2 < a.2 then
  b.2 else a.2) == if b.2 < a.2 then b.2 else a.2)) td (nd (a.1 == a.1 && a.2 == a.2) (nd (IntKind.i64.wrap (b.1 + 1) == b.1 && b.2 == b.2) td (Tr.leaf (AV.bool false) ⟨[], 0⟩))
  td))))))))))) td)))))))))))))) (nd (b.2 == a.1) (nd (decide (a.1 > a.2)) td (nd (decide (b.1 > b.2)) td (nd (decide (a.1 > a.2)) td (nd (decide (b.1 > IntKind.i64.wrap (b.2 - 1)))
  (nd (decide (a.1 > a.2)) td (nd (decide (b.1 > b.2)) td (nd (decide ((if b.1 > a.1 then b.1 else a.1) > if b.2 < a.2 then b.2 else a.2)) td (nd (decide ((if b.1 > a.1 then b.1 else
  a.1) > if b.2 < a.2 then b.2 else a.2)) td (nd (decide ((if b.1 > a.1 then b.1 else a.1) > if b.2 < a.2 then b.2 else a.2)) td (nd (decide (a.1 > a.2)) td (nd (decide (b.1 > b.2))
  td (nd (b.1 != b.2) td (nd (b.1 == a.1) (nd (b.1 == a.2) (nd (decide (IntKind.i64.wrap (a.1 + 1) > IntKind.i64.wrap (a.2 - 1))) (nd (a.1 != a.2) td (nd (a.1 == b.1) (nd (a.1 ==
  b.2) (nd (decide (IntKind.i64.wrap (b.1 + 1) > IntKind.i64.wrap (b.2 - 1))) (nd (!true == !decide ((if b.1 > a.1 then b.1 else a.1) > if b.2 < a.2 then b.2 else a.2)) (Tr.leaf
  (AV.bool false) ⟨[], 0⟩) (nd (!(((if b.1 > a.1 then b.1 else a.1) == if b.1 > a.1 then b.1 else a.1) && (if b.2 < a.2 then b.2 else a.2) == if b.2 < a.2 then b.2 else a.2)) td (nd
  (!(((if b.1 > a.1 then b.1 else a.1) == if b.1 > a.1 then b.1 else a.1) && (if b.2 < a.2 then b.2 else a.2) == if b.2 < a.2 then b.2 else a.2)) td (Tr.leaf (AV.bool !false) ⟨[],
  0⟩)))) td) td) td)) td) (nd (decide (IntKind.i64.wrap (a.1 + 1) > a.2)) td (nd (a.1 != a.2) (nd (decide (IntKind.i64.wrap (a.1 + 1) > a.2)) td (nd (decide (b.1 > b.2)) td (nd
  (!true == !decide ((if b.1 > a.1 then b.1 else a.1) > if b.2 < a.2 then b.2 else a.2)) (Tr.leaf (AV.bool false) ⟨[], 0⟩) (nd (!false == !decide (IntKind.i64.wrap (a.1 + 1) > a.2))
  (Tr.leaf (AV.bool false) ⟨[], 0⟩) (nd (!(((if b.1 > a.1 then b.1 else a.1) == if b.1 > a.1 then b.1 else a.1) && (if b.2 < a.2 then b.2 else a.2) == if b.2 < a.2 then b.2 else
  a.2)) td (nd (!(((if b.1 > a.1 then b.1 else a.1) == if b.1 > a.1 then b.1 else a.1) && (if b.2 < a.2 then b.2 else a.2) == if b.2 < a.2 then b.2 else a.2)) td (Tr.leaf (AV.bool
  !false) ⟨[], 0⟩))))))) td))) (nd (b.1 == a.2) (nd (decide (a.1 > IntKind.i64.wrap (a.2 - 1))) td (nd (a.1 != a.2) (nd (decide (a.1 > IntKind.i64.wrap (a.2 - 1))) td (nd (decide
  (b.1 > b.2)) td (nd (!true == !decide ((if b.1 > a.1 then b.1 else a.1) > if b.2 < a.2 then b.2 else a.2)) (Tr.leaf (AV.bool false) ⟨[], 0⟩) (nd (!false == !decide (a.1 >
  IntKind.i64.wrap (a.2 - 1))) (Tr.leaf (AV.bool false) ⟨[], 0⟩) (nd (!(((if b.1 > a.1 then b.1 else a.1) == if b.1 > a.1 then b.1 else a.1) && (if b.2 < a.2 then b.2 else a.2) == if
  b.2 < a.2 then b.2 else a.2)) td (nd (!(((if b.1 > a.1 then b.1 else a.1) == if b.1 > a.1 then b.1 else a.1) && (if b.2 < a.2 then b.2 else a.2) == if b.2 < a.2 then b.2 else a.2))
  td (Tr.leaf (AV.bool !false) ⟨[], 0⟩))))))) td)) (nd (decide (a.1 > a.2)) td (nd (a.1 != a.2) (nd (decide (a.1 > a.2)) td (nd (decide (b.1 > b.2)) td (nd (!true == !decide ((if b.1
  > a.1 then b.1 else a.1) > if b.2 < a.2 then b.2 else a.2)) (Tr.leaf (AV.bool false) ⟨[], 0⟩) (nd (!false == !decide (a.1 > a.2)) (Tr.leaf (AV.bool false) ⟨[], 0⟩) (nd (!(((if b.1
  > a.1 then b.1 else a.1) == if b.1 > a.1 then b.1 else a.1) && (if b.2 < a.2 then b.2 else a.2) == if b.2 < a.2 then b.2 else a.2)) td (nd (!(((if b.1 > a.1 then b.1 else a.1) ==
  if b.1 > a.1 then b.1 else a.1) && (if b.2 < a.2 then b.2 else a.2) == if b.2 < a.2 then b.2 else a.2)) td (Tr.leaf (AV.bool !false) ⟨[], 0⟩))))))) td)))))))))))) (nd (decide (a.1
  > a.2)) td (nd (decide (b.1 > IntKind.i64.wrap (b.2 - 1))) td (nd (decide (a.1 > a.2)) td (nd (decide (b.1 > b.2)) td (nd (decide ((if b.1 > a.1 then b.1 else a.1) > if b.2 < a.2
  then b.2 else a.2)) td (nd (decide ((if b.1 > a.1 then b.1 else a.1) > if b.2 < a.2 then b.2 else a.2)) td (nd (decide ((if b.1 > a.1 then b.1 else a.1) > if b.2 < a.2 then b.2
  else a.2)) td (nd (decide (a.1 > a.2)) td (nd (decide (b.1 > b.2)) td (nd (b.1 != b.2) (nd (a.1 != a.2) (nd (decide (a.1 > a.2)) td (nd (decide (b.1 > b.2)) td (nd (!true ==
  !decide ((if b.1 > a.1 then b.1 else a.1) > if b.2 < a.2 then b.2 else a.2)) (Tr.leaf (AV.bool false) ⟨[], 0⟩) (nd (!true == !decide (a.1 > a.2)) (Tr.leaf (AV.bool false) ⟨[], 0⟩)
  (nd (!(((if b.1 > a.1 then b.1 else a.1) == if b.1 > a.1 then b.1 else a.1) && (if b.2 < a.2 then b.2 else a.2) == if b.2 < a.2 then b.2 else a.2)) td (nd (!(((if b.1 > a.1 then
  b.1 else a.1) == if b.1 > a.1 then b.1 else a.1) && (if b.2 < a.2 then b.2 else a.2) == if b.2 < a.2 then b.2 else a.2)) td (nd (a.1 == a.1 && a.2 == a.2) (nd (b.1 == b.1 &&
  IntKind.i64.wrap (b.2 - 1) == b.2) td (Tr.leaf (AV.bool false) ⟨[], 0⟩)) td))))))) (nd (a.1 == b.1) (nd (a.1 == b.2) td (nd (decide (IntKind.i64.wrap (b.1 + 1) > b.2)) td (nd
  (decide (a.1 > a.2)) td (nd (decide (IntKind.i64.wrap (b.1 + 1) > b.2)) td (nd (!true == !decide ((if b.1 > a.1 then b.1 else a.1) > if b.2 < a.2 then b.2 else a.2)) (Tr.leaf
  (AV.bool false) ⟨[], 0⟩) (nd (!true == !decide (a.1 > a.2)) (Tr.leaf (AV.bool false) ⟨[], 0⟩) (nd (!(((if b.1 > a.1 then b.1 else a.1) == if b.1 > a.1 then b.1 else a.1) && (if b.2
  < a.2 then b.2 else a.2) == if b.2 < a.2 then b.2 else a.2)) td (nd (!(((if b.1 > a.1 then b.1 else a.1) == if b.1 > a.1 then b.1 else a.1) && (if b.2 < a.2 then b.2 else a.2) ==
  if b.2 < a.2 then b.2 else a.2)) td (nd (a.1 == a.1 && a.2 == a.2) (nd (b.1 == IntKind.i64.wrap (b.1 + 1) && IntKind.i64.wrap (b.2 - 1) == b.2) td (Tr.leaf (AV.bool false) ⟨[],
  0⟩)) td))))))))) (nd (a.1 == b.2) (nd (decide (b.1 > IntKind.i64.wrap (b.2 - 1))) td (nd (decide (a.1 > a.2)) td (nd (decide (b.1 > IntKind.i64.wrap (b.2 - 1))) td (nd (!true ==
  !decide ((if b.1 > a.1 then b.1 else a.1) > if b.2 < a.2 then b.2 else a.2)) (Tr.leaf (AV.bool false) ⟨[], 0⟩) (nd (!true == !decide (a.1 > a.2)) (Tr.leaf (AV.bool false) ⟨[], 0⟩)
  (nd (!(((if b.1 > a.1 then b.1 else a.1) == if b.1 > a.1 then b.1 else a.1) && (if b.2 < a.2 then b.2 else a.2) == if b.2 < a.2 then b.2 else a.2)) td (nd (!(((if b.1 > a.1 then
  b.1 else a.1) == if b.1 > a.1 then b.1 else a.1) && (if b.2 < a.2 then b.2 else a.2) == if b.2 < a.2 then b.2 else a.2)) td (nd (a.1 == a.1 && a.2 == a.2) (nd (b.1 == b.1 &&
  IntKind.i64.wrap (b.2 - 1) == IntKind.i64.wrap (b.2 - 1)) (Tr.leaf (AV.bool !false) ⟨[], 0⟩) td) td)))))))) (nd (decide (b.1 > b.2)) td (nd (decide (a.1 > a.2)) td (nd (decide (b.1
  > b.2)) td (nd (!true == !decide ((if b.1 > a.1 then b.1 else a.1) > if b.2 < a.2 then b.2 else a.2)) (Tr.leaf (AV.bool false) ⟨[], 0⟩) (nd (!true == !decide (a.1 > a.2)) (Tr.leaf
  (AV.bool false) ⟨[], 0⟩) (nd (!(((if b.1 > a.1 then b.1 else a.1) == if b.1 > a.1 then b.1 else a.1) && (if b.2 < a.2 then b.2 else a.2) == if b.2 < a.2 then b.2 else a.2)) td (nd
  (!(((if b.1 > a.1 then b.1 else a.1) == if b.1 > a.1 then b.1 else a.1) && (if b.2 < a.2 then b.2 else a.2) == if b.2 < a.2 then b.2 else a.2)) td (nd (a.1 == a.1 && a.2 == a.2)
  (nd (b.1 == b.1 && IntKind.i64.wrap (b.2 - 1) == b.2) td (Tr.leaf (AV.bool false) ⟨[], 0⟩)) td))))))))))) td)))))))))))))) (nd (decide (a.1 > a.2)) td (nd (decide (b.1 > b.2)) td
  (nd (decide (a.1 > a.2)) td (nd (decide (b.1 > b.2)) td (nd (decide (a.1 > a.2)) td (nd (decide (b.1 > b.2)) td (nd (decide (a.1 > a.2)) td (nd (decide (b.1 > b.2)) td (nd (decide
  ((if b.1 > a.1 then b.1 else a.1) > if b.2 < a.2 then b.2 else a.2)) td (nd (decide ((if b.1 > a.1 then b.1 else a.1) > if b.2 < a.2 then b.2 else a.2)) td (nd (decide ((if b.1 >
  a.1 then b.1 else a.1) > if b.2 < a.2 then b.2 else a.2)) td (nd (decide (a.1 > a.2)) td (nd (decide (b.1 > b.2)) td (nd (b.1 != b.2) (nd (a.1 != a.2) (nd (decide (a.1 > a.2)) td
  (nd (decide (b.1 > b.2)) td (nd (!true == !decide ((if b.1 > a.1 then b.1 else a.1) > if b.2 < a.2 then b.2 else a.2)) (Tr.leaf (AV.bool false) ⟨[], 0⟩) (nd (!true == !decide (a.1
  > a.2)) (Tr.leaf (AV.bool false) ⟨[], 0⟩) (nd (!(((if b.1 > a.1 then b.1 else a.1) == if b.1 > a.1 then b.1 else a.1) && (if b.2 < a.2 then b.2 else a.2) == if b.2 < a.2 then b.2
  else a.2)) td (nd (!(((if b.1 > a.1 then b.1 else a.1) == if b.1 > a.1 then b.1 else a.1) && (if b.2 < a.2 then b.2 else a.2) == if b.2 < a.2 then b.2 else a.2)) td (nd (a.1 == a.1
  && a.2 == a.2) (nd (b.1 == b.1 && b.2 == b.2) (Tr.leaf (AV.bool !false) ⟨[], 0⟩) td) td))))))) (nd (a.1 == b.1) (nd (a.1 == b.2) td (nd (decide (IntKind.i64.wrap (b.1 + 1) > b.2))
  td (nd (decide (a.1 > a.2)) td (nd (decide (IntKind.i64.wrap (b.1 + 1) > b.2)) td (nd (!true == !decide ((if b.1 > a.1 then b.1 else a.1) > if b.2 < a.2 then b.2 else a.2))
  (Tr.leaf (AV.bool false) ⟨[], 0⟩) (nd (!true == !decide (a.1 > a.2)) (Tr.leaf (AV.bool false) ⟨[], 0⟩) (nd (!(((if b.1 > a.1 then b.1 else a.1) == if b.1 > a.1 then b.1 else a.1)
  && (if b.2 < a.2 then b.2 else a.2) == if b.2 < a.2 then b.2 else a.2)) td (nd (!(((if b.1 > a.1 then b.1 else a.1) == if b.1 > a.1 then b.1 else a.1) && (if b.2 < a.2 then b.2
  else a.2) == if b.2 < a.2 then b.2 else a.2)) td (nd (a.1 == a.1 && a.2 == a.2) (nd (b.1 == IntKind.i64.wrap (b.1 + 1) && b.2 == b.2) (Tr.leaf (AV.bool !false) ⟨[], 0⟩) (Tr.leaf
  (AV.bool false) ⟨[], 0⟩)) td))))))))) (nd (a.1 == b.2) (nd (decide (b.1 > IntKind.i64.wrap (b.2 - 1))) td (nd (decide (a.1 > a.2)) td (nd (decide (b.1 > IntKind.i64.wrap (b.2 -
  1))) td (nd (!true == !decide ((if b.1 > a.1 then b.1 else a.1) > if b.2 < a.2 then b.2 else a.2)) (Tr.leaf (AV.bool false) ⟨[], 0⟩) (nd (!true == !decide (a.1 > a.2)) (Tr.leaf
  (AV.bool false) ⟨[], 0⟩) (nd (!(((if b.1 > a.1 then b.1 else a.1) == if b.1 > a.1 then b.1 else a.1) && (if b.2 < a.2 then b.2 else a.2) == if b.2 < a.2 then b.2 else a.2)) td (nd
  (!(((if b.1 > a.1 then b.1 else a.1) == if b.1 > a.1 then b.1 else a.1) && (if b.2 < a.2 then b.2 else a.2) == if b.2 < a.2 then b.2 else a.2)) td (nd (a.1 == a.1 && a.2 == a.2)
  (nd (b.1 == b.1 && b.2 == IntKind.i64.wrap (b.2 - 1)) (Tr.leaf (AV.bool !false) ⟨[], 0⟩) (Tr.leaf (AV.bool false) ⟨[], 0⟩)) td)))))))) (nd (decide (b.1 > b.2)) td (nd (decide (a.1
  > a.2)) td (nd (decide (b.1 > b.2)) td (nd (!true == !decide ((if b.1 > a.1 then b.1 else a.1) > if b.2 < a.2 then b.2 else a.2)) (Tr.leaf (AV.bool false) ⟨[], 0⟩) (nd (!true ==
  !decide (a.1 > a.2)) (Tr.leaf (AV.bool false) ⟨[], 0⟩) (nd (!(((if b.1 > a.1 then b.1 else a.1) == if b.1 > a.1 then b.1 else a.1) && (if b.2 < a.2 then b.2 else a.2) == if b.2 <
  a.2 then b.2 else a.2)) td (nd (!(((if b.1 > a.1 then b.1 else a.1) == if b.1 > a.1 then b.1 else a.1) && (if b.2 < a.2 then b.2 else a.2) == if b.2 < a.2 then b.2 else a.2)) td
  (nd (a.1 == a.1 && a.2 == a.2) (nd (b.1 == b.1 && b.2 == b.2) (Tr.leaf (AV.bool !false) ⟨[], 0⟩) td) td))))))))))) (nd (b.1 == a.1) (nd (b.1 == a.2) (nd (decide (IntKind.i64.wrap
  (a.1 + 1) > IntKind.i64.wrap (a.2 - 1))) (nd (a.1 != a.2) td (nd (a.1 == b.1) (nd (a.1 == b.2) (nd (decide (IntKind.i64.wrap (b.1 + 1) > IntKind.i64.wrap (b.2 - 1))) (nd (!true ==
  !decide ((if b.1 > a.1 then b.1 else a.1) > if b.2 < a.2 then b.2 else a.2)) (Tr.leaf (AV.bool false) ⟨[], 0⟩) (Tr.leaf (AV.bool false) ⟨[], 0⟩)) td) td) td)) td) (nd (decide
  (IntKind.i64.wrap (a.1 + 1) > a.2)) td (nd (a.1 != a.2) (nd (decide (IntKind.i64.wrap (a.1 + 1) > a.2)) td (nd (decide (b.1 > b.2)) td (nd (!true == !decide ((if b.1 > a.1 then b.1
  else a.1) > if b.2 < a.2 then b.2 else a.2)) (Tr.leaf (AV.bool false) ⟨[], 0⟩) (nd (!true == !decide (IntKind.i64.wrap (a.1 + 1) > a.2)) (Tr.leaf (AV.bool false) ⟨[], 0⟩) (nd
  (!(((if b.1 > a.1 then b.1 else a.1) == if b.1 > a.1 then b.1 else a.1) && (if b.2 < a.2 then b.2 else a.2) == if b.2 < a.2 then b.2 else a.2)) td (nd (!(((if b.1 > a.1 then b.1
  else a.1) == if b.1 > a.1 then b.1 else a.1) && (if b.2 < a.2 then b.2 else a.2) == if b.2 < a.2 then b.2 else a.2)) td (nd (a.1 == IntKind.i64.wrap (a.1 + 1) && a.2 == a.2) (nd
  (b.1 == b.1 && b.2 == b.2) (Tr.leaf (AV.bool !false) ⟨[], 0⟩) td) (Tr.leaf (AV.bool false) ⟨[], 0⟩)))))))) td))) (nd (b.1 == a.2) (nd (decide (a.1 > IntKind.i64.wrap (a.2 - 1))) td
  (nd (a.1 != a.2) (nd (decide (a.1 > IntKind.i64.wrap (a.2 - 1))) td (nd (decide (b.1 > b.2)) td (nd (!true == !decide ((if b.1 > a.1 then b.1 else a.1) > if b.2 < a.2 then b.2 else
  a.2)) (Tr.leaf (AV.bool false) ⟨[], 0⟩) (nd (!true == !decide (a.1 > IntKind.i64.wrap (a.2 - 1))) (Tr.leaf (AV.bool false) ⟨[], 0⟩) (nd (!(((if b.1 > a.1 then b.1 else a.1) == if
  b.1 > a.1 then b.1 else a.1) && (if b.2 < a.2 then b.2 else a.2) == if b.2 < a.2 then b.2 else a.2)) td (nd (!(((if b.1 > a.1 then b.1 else a.1) == if b.1 > a.1 then b.1 else a.1)
  && (if b.2 < a.2 then b.2 else a.2) == if b.2 < a.2 then b.2 else a.2)) td (nd (a.1 == a.1 && a.2 == IntKind.i64.wrap (a.2 - 1)) (nd (b.1 == b.1 && b.2 == b.2) (Tr.leaf (AV.bool
  !false) ⟨[], 0⟩) td) (Tr.leaf (AV.bool false) ⟨[], 0⟩)))))))) td)) (nd (decide (a.1 > a.2)) td (nd (a.1 != a.2) (nd (decide (a.1 > a.2)) td (nd (decide (b.1 > b.2)) td (nd (!true
  == !decide ((if b.1 > a.1 then b.1 else a.1) > if b.2 < a.2 then b.2 else a.2)) (Tr.leaf (AV.bool false) ⟨[], 0⟩) (nd (!true == !decide (a.1 > a.2)) (Tr.leaf (AV.bool false) ⟨[],
  0⟩) (nd (!(((if b.1 > a.1 then b.1 else a.1) == if b.1 > a.1 then b.1 else a.1) && (if b.2 < a.2 then b.2 else a.2) == if b.2 < a.2 then b.2 else a.2)) td (nd (!(((if b.1 > a.1
  then b.1 else a.1) == if b.1 > a.1 then b.1 else a.1) && (if b.2 < a.2 then b.2 else a.2) == if b.2 < a.2 then b.2 else a.2)) td (nd (a.1 == a.1 && a.2 == a.2) (nd (b.1 == b.1 &&
  b.2 == b.2) (Tr.leaf (AV.bool !false) ⟨[], 0⟩) td) td))))))) td))))))))))))))))))))) (nd (a.1 == b.1) (nd (a.1 != a.2) (nd (decide (a.1 > a.2)) td (nd (decide (b.1 > b.2)) td (nd
  (decide (IntKind.i64.wrap (a.1 + 1) > a.2)) (nd (decide (a.1 > a.2)) td (nd (decide (b.1 > b.2)) td (nd (decide ((if b.1 > a.1 then b.1 else a.1) > if b.2 < a.2 then b.2 else a.2))
  td (nd (decide ((if b.1 > a.1 then b.1 else a.1) > if b.2 < a.2 then b.2 else a.2)) td (nd (decide ((if b.1 > a.1 then b.1 else a.1) > if b.2 < a.2 then b.2 else a.2)) td (nd
  (decide (a.1 > a.2)) td (nd (decide (b.1 > b.2)) td (nd (b.1 != b.2) (nd (a.1 != a.2) td (nd (a.1 == b.1) (nd (a.1 == b.2) td (nd (decide (IntKind.i64.wrap (b.1 + 1) > b.2)) td (nd
  (decide (a.1 > a.2)) td (nd (decide (IntKind.i64.wrap (b.1 + 1) > b.2)) td (nd (!true == !decide ((if b.1 > a.1 then b.1 else a.1) > if b.2 < a.2 then b.2 else a.2)) (Tr.leaf
  (AV.bool false) ⟨[], 0⟩) (nd (!false == !decide (a.1 > a.2)) (Tr.leaf (AV.bool false) ⟨[], 0⟩) (nd (!(((if b.1 > a.1 then b.1 else a.1) == if b.1 > a.1 then b.1 else a.1) && (if
  b.2 < a.2 then b.2 else a.2) == if b.2 < a.2 then b.2 else a.2)) td (nd (!(((if b.1 > a.1 then b.1 else a.1) == if b.1 > a.1 then b.1 else a.1) && (if b.2 < a.2 then b.2 else a.2)
  == if b.2 < a.2 then b.2 else a.2)) td (Tr.leaf (AV.bool !false) ⟨[], 0⟩))))))))) (nd (a.1 == b.2) (nd (decide (b.1 > IntKind.i64.wrap (b.2 - 1))) td (nd (decide (a.1 > a.2)) td
  (nd (decide (b.1 > IntKind.i64.wrap (b.2 - 1))) td (nd (!true == !decide ((if b.1 > a.1 then b.1 else a.1) > if b.2 < a.2 then b.2 else a.2)) (Tr.leaf (AV.bool false) ⟨[], 0⟩) (nd
  (!false == !decide (a.1 > a.2)) (Tr.leaf (AV.bool false) ⟨[], 0⟩) (nd (!(((if b.1 > a.1 then b.1 else a.1) == if b.1 > a.1 then b.1 else a.1) && (if b.2 < a.2 then b.2 else a.2) ==
  if b.2 < a.2 then b.2 else a.2)) td (nd (!(((if b.1 > a.1 then b.1 else a.1) == if b.1 > a.1 then b.1 else a.1) && (if b.2 < a.2 then b.2 else a.2) == if b.2 < a.2 then b.2 else
  a.2)) td (Tr.leaf (AV.bool !false) ⟨[], 0⟩)))))))) (nd (decide (b.1 > b.2)) td (nd (decide (a.1 > a.2)) td (nd (decide (b.1 > b.2)) td (nd (!true == !decide ((if b.1 > a.1 then b.1
  else a.1) > if b.2 < a.2 then b.2 else a.2)) (Tr.leaf (AV.bool false) ⟨[], 0⟩) (nd (!false == !decide (a.1 > a.2)) (Tr.leaf (AV.bool false) ⟨[], 0⟩) (nd (!(((if b.1 > a.1 then b.1
  else a.1) == if b.1 > a.1 then b.1 else a.1) && (if b.2 < a.2 then b.2 else a.2) == if b.2 < a.2 then b.2 else a.2)) td (nd (!(((if b.1 > a.1 then b.1 else a.1) == if b.1 > a.1
  then b.1 else a.1) && (if b.2 < a.2 then b.2 else a.2) == if b.2 < a.2 then b.2 else a.2)) td (Tr.leaf (AV.bool !false) ⟨[], 0⟩))))))))))) (nd (b.1 == a.1) (nd (b.1 == a.2) (nd
  (decide (IntKind.i64.wrap (a.1 + 1) > IntKind.i64.wrap (a.2 - 1))) (nd (a.1 != a.2) td (nd (a.1 == b.1) (nd (a.1 == b.2) (nd (decide (IntKind.i64.wrap (b.1 + 1) > IntKind.i64.wrap
  (b.2 - 1))) (nd (!true == !decide ((if b.1 > a.1 then b.1 else a.1) > if b.2 < a.2 then b.2 else a.2)) (Tr.leaf (AV.bool false) ⟨[], 0⟩) (nd (!(((if b.1 > a.1 then b.1 else a.1) ==
  if b.1 > a.1 then b.1 else a.1) && (if b.2 < a.2 then b.2 else a.2) == if b.2 < a.2 then b.2 else a.2)) td (nd (!(((if b.1 > a.1 then b.1 else a.1) == if b.1 > a.1 then b.1 else
  a.1) && (if b.2 < a.2 then b.2 else a.2) == if b.2 < a.2 then b.2 else a.2)) td (Tr.leaf (AV.bool !false) ⟨[], 0⟩)))) td) td) td)) td) td) td))))))))) (nd (decide (b.1 > b.2)) td
  (nd (decide (IntKind.i64.wrap (a.1 + 1) > a.2)) td (nd (decide (b.1 > b.2)) td (nd (decide (a.1 > a.2)) td (nd (decide (b.1 > b.2)) td (nd (decide ((if b.1 > a.1 then b.1 else a.1)
  > if b.2 < a.2 then b.2 else a.2)) td (nd (decide ((if b.1 > a.1 then b.1 else a.1) > if b.2 < a.2 then b.2 else a.2)) td (nd (decide ((if b.1 > a.1 then b.1 else a.1) > if b.2 <
  a.2 then b.2 else a.2)) td (nd (decide (a.1 > a.2)) td (nd (decide (b.1 > b.2)) td (nd (b.1 != b.2) (nd (a.1 != a.2) (nd (decide (a.1 > a.2)) td (nd (decide (b.1 > b.2)) td (nd
  (!true == !decide ((if b.1 > a.1 then b.1 else a.1) > if b.2 < a.2 then b.2 else a.2)) (Tr.leaf (AV.bool false) ⟨[], 0⟩) (nd (!true == !decide (a.1 > a.2)) (Tr.leaf (AV.bool false)
  ⟨[], 0⟩) (nd (!(((if b.1 > a.1 then b.1 else a.1) == if b.1 > a.1 then b.1 else a.1) && (if b.2 < a.2 then b.2 else a.2) == if b.2 < a.2 then b.2 else a.2)) td (nd (!(((if b.1 >
  a.1 then b.1 else a.1) == if b.1 > a.1 then b.1 else a.1) && (if b.2 < a.2 then b.2 else a.2) == if b.2 < a.2 then b.2 else a.2)) td (nd (IntKind.i64.wrap (a.1 + 1) == a.1 && a.2
  == a.2) td (Tr.leaf (AV.bool false) ⟨[], 0⟩)))))))) td) (nd (b.1 == a.1) (nd (b.1 == a.2) td (nd (decide (IntKind.i64.wrap (a.1 + 1) > a.2)) td (nd (a.1 != a.2) (nd (decide
  (IntKind.i64.wrap (a.1 + 1) > a.2)) td (nd (decide (b.1 > b.2)) td (nd (!true == !decide ((if b.1 > a.1 then b.1 else a.1) > if b.2 < a.2 then b.2 else a.2)) (Tr.leaf (AV.bool
  false) ⟨[], 0⟩) (nd (!true == !decide (IntKind.i64.wrap (a.1 + 1) > a.2)) (Tr.leaf (AV.bool false) ⟨[], 0⟩) (nd (!(((if b.1 > a.1 then b.1 else a.1) == if b.1 > a.1 then b.1 else
  a.1) && (if b.2 < a.2 then b.2 else a.2) == if b.2 < a.2 then b.2 else a.2)) td (nd (!(((if b.1 > a.1 then b.1 else a.1) == if b.1 > a.1 then b.1 else a.1) && (if b.2 < a.2 then
  b.2 else a.2) == if b.2 < a.2 then b.2 else a.2)) td (nd (IntKind.i64.wrap (a.1 + 1) == IntKind.i64.wrap (a.1 + 1) && a.2 == a.2) (nd (b.1 == b.1 && b.2 == b.2) (Tr.leaf (AV.bool
  !false) ⟨[], 0⟩) td) td))))))) td))) (nd (b.1 == a.2) (nd (decide (a.1 > IntKind.i64.wrap (a.2 - 1))) td (nd (a.1 != a.2) (nd (decide (a.1 > IntKind.i64.wrap (a.2 - 1))) td (nd
  (decide (b.1 > b.2)) td (nd (!true == !decide ((if b.1 > a.1 then b.1 else a.1) > if b.2 < a.2 then b.2 else a.2)) (Tr.leaf (AV.bool false) ⟨[], 0⟩) (nd (!true == !decide (a.1 >
  IntKind.i64.wrap (a.2 - 1))) (Tr.leaf (AV.bool false) ⟨[], 0⟩) (nd (!(((if b.1 > a.1 then b.1 else a.1) == if b.1 > a.1 then b.1 else a.1) && (if b.2 < a.2 then b.2 else a.2) == if
  b.2 < a.2 then b.2 else a.2)) td (nd (!(((if b.1 > a.1 then b.1 else a.1) == if b.1 > a.1 then b.1 else a.1) && (if b.2 < a.2 then b.2 else a.2) == if b.2 < a.2 then b.2 else a.2))
  td (nd (IntKind.i64.wrap (a.1 + 1) == a.1 && a.2 == IntKind.i64.wrap (a.2 - 1)) td (Tr.leaf (AV.bool false) ⟨[], 0⟩)))))))) td)) (nd (decide (a.1 > a.2)) td (nd (a.1 != a.2) (nd
  (decide (a.1 > a.2)) td (nd (decide (b.1 > b.2)) td (nd (!true == !decide ((if b.1 > a.1 then b.1 else a.1) > if b.2 < a.2 then b.2 else a.2)) (Tr.leaf (AV.bool false) ⟨[], 0⟩) (nd
  (!true == !decide (a.1 > a.2)) (Tr.leaf (AV.bool false) ⟨[], 0⟩) (nd (!(((if b.1 > a.1 then b.1 else a.1) == if b.1 > a.1 then b.1 else a.1) && (if b.2 < a.2 then b.2 else a.2) ==
  if b.2 < a.2 then b.2 else a.2)) td (nd (!(((if b.1 > a.1 then b.1 else a.1) == if b.1 > a.1 then b.1 else a.1) && (if b.2 < a.2 then b.2 else a.2) == if b.2 < a.2 then b.2 else
  a.2)) td (nd (IntKind.i64.wrap (a.1 + 1) == a.1 && a.2 == a.2) td (Tr.leaf (AV.bool false) ⟨[], 0⟩)))))))) td)))))))))))))))))) (nd (b.1 == a.1) (nd (decide (a.1 > a.2)) td (nd
  (decide (b.1 > b.2)) td (nd (decide (IntKind.i64.wrap (a.1 + 1) > a.2)) (nd (decide (a.1 > a.2)) td (nd (decide (b.1 > b.2)) td (nd (decide ((if b.1 > a.1 then b.1 else a.1) > if
  b.2 < a.2 then b.2 else a.2)) td (nd (decide ((if b.1 > a.1 then b.1 else a.1) > if b.2 < a.2 then b.2 else a.2)) td (nd (decide ((if b.1 > a.1 then b.1 else a.1) > if b.2 < a.2
  then b.2 else a.2)) td (nd (decide (a.1 > a.2)) td (nd (decide (b.1 > b.2)) td (nd (b.1 != b.2) (nd (a.1 != a.2) td (nd (a.1 == b.1) (nd (a.1 == b.2) td (nd (decide
  (IntKind.i64.wrap (b.1 + 1) > b.2)) td (nd (decide (a.1 > a.2)) td (nd (decide (IntKind.i64.wrap (b.1 + 1) > b.2)) td (nd (!true == !decide ((if b.1 > a.1 then b.1 else a.1) > if
  b.2 < a.2 then b.2 else a.2)) (Tr.leaf (AV.bool false) ⟨[], 0⟩) (nd (!false == !decide (a.1 > a.2)) (Tr.leaf (AV.bool false) ⟨[], 0⟩) (nd (!(((if b.1 > a.1 then b.1 else a.1) == if
  b.1 > a.1 then b.1 else a.1) && (if b.2 < a.2 then b.2 else a.2) == if b.2 < a.2 then b.2 else a.2)) td (nd (!(((if b.1 > a.1 then b.1 else a.1) == if b.1 > a.1 then b.1 else a.1)
  && (if b.2 < a.2 then b.2 else a.2) == if b.2 < a.2 then b.2 else a.2)) td (Tr.leaf (AV.bool !false) ⟨[], 0⟩))))))))) (nd (a.1 == b.2) (nd (decide (b.1 > IntKind.i64.wrap (b.2 -
  1))) td (nd (decide (a.1 > a.2)) td (nd (decide (b.1 > IntKind.i64.wrap (b.2 - 1))) td (nd (!true == !decide ((if b.1 > a.1 then b.1 else a.1) > if b.2 < a.2 then b.2 else a.2))
  (Tr.leaf (AV.bool false) ⟨[], 0⟩) (nd (!false == !decide (a.1 > a.2)) (Tr.leaf (AV.bool false) ⟨[], 0⟩) (nd (!(((if b.1 > a.1 then b.1 else a.1) == if b.1 > a.1 then b.1 else a.1)
  && (if b.2 < a.2 then b.2 else a.2) == if b.2 < a.2 then b.2 else a.2)) td (nd (!(((if b.1 > a.1 then b.1 else a.1) == if b.1 > a.1 then b.1 else a.1) && (if b.2 < a.2 then b.2
  else a.2) == if b.2 < a.2 then b.2 else a.2)) td (Tr.leaf (AV.bool !false) ⟨[], 0⟩)))))))) (nd (decide (b.1 > b.2)) td (nd (decide (a.1 > a.2)) td (nd (decide (b.1 > b.2)) td (nd
  (!true == !decide ((if b.1 > a.1 then b.1 else a.1) > if b.2 < a.2 then b.2 else a.2)) (Tr.leaf (AV.bool false) ⟨[], 0⟩) (nd (!false == !decide (a.1 > a.2)) (Tr.leaf (AV.bool
  false) ⟨[], 0⟩) (nd (!(((if b.1 > a.1 then b.1 else a.1) == if b.1 > a.1 then b.1 else a.1) && (if b.2 < a.2 then b.2 else a.2) == if b.2 < a.2 then b.2 else a.2)) td (nd (!(((if
  b.1 > a.1 then b.1 else a.1) == if b.1 > a.1 then b.1 else a.1) && (if b.2 < a.2 then b.2 else a.2) == if b.2 < a.2 then b.2 else a.2)) td (Tr.leaf (AV.bool !false) ⟨[],
  0⟩))))))))))) (nd (b.1 == a.1) (nd (b.1 == a.2) (nd (decide (IntKind.i64.wrap (a.1 + 1) > IntKind.i64.wrap (a.2 - 1))) (nd (a.1 != a.2) td (nd (a.1 == b.1) (nd (a.1 == b.2) (nd
  (decide (IntKind.i64.wrap (b.1 + 1) > IntKind.i64.wrap (b.2 - 1))) (nd (!true == !decide ((if b.1 > a.1 then b.1 else a.1) > if b.2 < a.2 then b.2 else a.2)) (Tr.leaf (AV.bool
  false) ⟨[], 0⟩) (nd (!(((if b.1 > a.1 then b.1 else a.1) == if b.1 > a.1 then b.1 else a.1) && (if b.2 < a.2 then b.2 else a.2) == if b.2 < a.2 then b.2 else a.2)) td (nd (!(((if
  b.1 > a.1 then b.1 else a.1) == if b.1 > a.1 then b.1 else a.1) && (if b.2 < a.2 then b.2 else a.2) == if b.2 < a.2 then b.2 else a.2)) td (Tr.leaf (AV.bool !false) ⟨[], 0⟩)))) td)
  td) td)) td) td) td))))))))) (nd (decide (IntKind.i64.wrap (b.1 + 1) > b.2)) (nd (decide (a.1 > a.2)) td (nd (decide (b.1 > b.2)) td (nd (decide ((if b.1 > a.1 then b.1 else a.1) >
  if b.2 < a.2 then b.2 else a.2)) td (nd (decide ((if b.1 > a.1 then b.1 else a.1) > if b.2 < a.2 then b.2 else a.2)) td (nd (decide ((if b.1 > a.1 then b.1 else a.1) > if b.2 < a.2
  then b.2 else a.2)) td (nd (decide (a.1 > a.2)) td (nd (decide (b.1 > b.2)) td (nd (b.1 != b.2) td (nd (b.1 == a.1) (nd (b.1 == a.2) td (nd (decide (IntKind.i64.wrap (a.1 + 1) >
  a.2)) td (nd (a.1 != a.2) (nd (decide (IntKind.i64.wrap (a.1 + 1) > a.2)) td (nd (decide (b.1 > b.2)) td (nd (!true == !decide ((if b.1 > a.1 then b.1 else a.1) > if b.2 < a.2 then
  b.2 else a.2)) (Tr.leaf (AV.bool false) ⟨[], 0⟩) (nd (!false == !decide (IntKind.i64.wrap (a.1 + 1) > a.2)) (Tr.leaf (AV.bool false) ⟨[], 0⟩) (nd (!(((if b.1 > a.1 then b.1 else
  a.1) == if b.1 > a.1 then b.1 else a.1) && (if b.2 < a.2 then b.2 else a.2) == if b.2 < a.2 then b.2 else a.2)) td (nd (!(((if b.1 > a.1 then b.1 else a.1) == if b.1 > a.1 then b.1
  else a.1) && (if b.2 < a.2 then b.2 else a.2) == if b.2 < a.2 then b.2 else a.2)) td (Tr.leaf (AV.bool !false) ⟨[], 0⟩))))))) td))) (nd (b.1 == a.2) (nd (decide (a.1 >
  IntKind.i64.wrap (a.2 - 1))) td (nd (a.1 != a.2) (nd (decide (a.1 > IntKind.i64.wrap (a.2 - 1))) td (nd (decide (b.1 > b.2)) td (nd (!true == !decide ((if b.1 > a.1 then b.1 else
  a.1) > if b.2 < a.2 then b.2 else a.2)) (Tr.leaf (AV.bool false) ⟨[], 0⟩) (nd (!false == !decide (a.1 > IntKind.i64.wrap (a.2 - 1))) (Tr.leaf (AV.bool false) ⟨[], 0⟩) (nd (!(((if
  b.1 > a.1 then b.1 else a.1) == if b.1 > a.1 then b.1 else a.1) && (if b.2 < a.2 then b.2 else a.2) == if b.2 < a.2 then b.2 else a.2)) td (nd (!(((if b.1 > a.1 then b.1 else a.1)
  == if b.1 > a.1 then b.1 else a.1) && (if b.2 < a.2 then b.2 else a.2) == if b.2 < a.2 then b.2 else a.2)) td (Tr.leaf (AV.bool !false) ⟨[], 0⟩))))))) td)) (nd (decide (a.1 > a.2))
  td (nd (a.1 != a.2) (nd (decide (a.1 > a.2)) td (nd (decide (b.1 > b.2)) td (nd (!true == !decide ((if b.1 > a.1 then b.1 else a.1) > if b.2 < a.2 then b.2 else a.2)) (Tr.leaf
  (AV.bool false) ⟨[], 0⟩) (nd (!false == !decide (a.1 > a.2)) (Tr.leaf (AV.bool false) ⟨[], 0⟩) (nd (!(((if b.1 > a.1 then b.1 else a.1) == if b.1 > a.1 then b.1 else a.1) && (if
  b.2 < a.2 then b.2 else a.2) == if b.2 < a.2 then b.2 else a.2)) td (nd (!(((if b.1 > a.1 then b.1 else a.1) == if b.1 > a.1 then b.1 else a.1) && (if b.2 < a.2 then b.2 else a.2)
  == if b.2 < a.2 then b.2 else a.2)) td (Tr.leaf (AV.bool !false) ⟨[], 0⟩))))))) td)))))))))))) (nd (decide (IntKind.i64.wrap (a.1 + 1) > a.2)) td (nd (decide (IntKind.i64.wrap (b.1
  + 1) > b.2)) td (nd (decide (a.1 > a.2)) td (nd (decide (b.1 > b.2)) td (nd (decide ((if b.1 > a.1 then b.1 else a.1) > if b.2 < a.2 then b.2 else a.2)) td (nd (decide ((if b.1 >
  a.1 then b.1 else a.1) > if b.2 < a.2 then b.2 else a.2)) td (nd (decide ((if b.1 > a.1 then b.1 else a.1) > if b.2 < a.2 then b.2 else a.2)) td (nd (decide (a.1 > a.2)) td (nd
  (decide (b.1 > b.2)) td (nd (b.1 != b.2) (nd (a.1 != a.2) (nd (decide (a.1 > a.2)) td (nd (decide (b.1 > b.2)) td (nd (!true == !decide ((if b.1 > a.1 then b.1 else a.1) > if b.2 <
  a.2 then b.2 else a.2)) (Tr.leaf (AV.bool false) ⟨[], 0⟩) (nd (!true == !decide (a.1 > a.2)) (Tr.leaf (AV.bool false) ⟨[], 0⟩) (nd (!(((if b.1 > a.1 then b.1 else a.1) == if b.1 >
  a.1 then b.1 else a.1) && (if b.2 < a.2 then b.2 else a.2) == if b.2 < a.2 then b.2 else a.2)) td (nd (!(((if b.1 > a.1 then b.1 else a.1) == if b.1 > a.1 then b.1 else a.1) && (if
  b.2 < a.2 then b.2 else a.2) == if b.2 < a.2 then b.2 else a.2)) td (nd (IntKind.i64.wrap (a.1 + 1) == a.1 && a.2 == a.2) td (Tr.leaf (AV.bool false) ⟨[], 0⟩)))))))) td)
  td)))))))))))))) td)) (nd (a.2 == b.1) (nd (a.1 != a.2) (nd (decide (a.1 > a.2)) td (nd (decide (b.1 > b.2)) td (nd (decide (a.1 > IntKind.i64.wrap (a.2 - 1))) (nd (decide (a.1 >
  a.2)) td (nd (decide (b.1 > b.2)) td (nd (decide ((if b.1 > a.1 then b.1 else a.1) > if b.2 < a.2 then b.2 else a.2)) td (nd (decide ((if b.1 > a.1 then b.1 else a.1) > if b.2 <
  a.2 then b.2 else a.2)) td (nd (decide ((if b.1 > a.1 then b.1 else a.1) > if b.2 < a.2 then b.2 else a.2)) td (nd (decide (a.1 > a.2)) td (nd (decide (b.1 > b.2)) td (nd (b.1 !=
  b.2) (nd (a.1 != a.2) td (nd (a.1 == b.1) (nd (a.1 == b.2) td (nd (decide (IntKind.i64.wrap (b.1 + 1) > b.2)) td (nd (decide (a.1 > a.2)) td (nd (decide (IntKind.i64.wrap (b.1 + 1)
  > b.2)) td (nd (!true == !decide ((if b.1 > a.1 then b.1 else a.1) > if b.2 < a.2 then b.2 else a.2)) (Tr.leaf (AV.bool false) ⟨[], 0⟩) (nd (!false == !decide (a.1 > a.2)) (Tr.leaf
  (AV.bool false) ⟨[], 0⟩) (nd (!(((if b.1 > a.1 then b.1 else a.1) == if b.1 > a.1 then b.1 else a.1) && (if b.2 < a.2 then b.2 else a.2) == if b.2 < a.2 then b.2 else a.2)) td (nd
  (!(((if b.1 > a.1 then b.1 else a.1) == if b.1 > a.1 then b.1 else a.1) && (if b.2 < a.2 then b.2 else a.2) == if b.2 < a.2 then b.2 else a.2)) td (Tr.leaf (AV.bool !false) ⟨[],
  0⟩))))))))) (nd (a.1 == b.2) (nd (decide (b.1 > IntKind.i64.wrap (b.2 - 1))) td (nd (decide (a.1 > a.2)) td (nd (decide (b.1 > IntKind.i64.wrap (b.2 - 1))) td (nd (!true == !decide
  ((if b.1 > a.1 then b.1 else a.1) > if b.2 < a.2 then b.2 else a.2)) (Tr.leaf (AV.bool false) ⟨[], 0⟩) (nd (!false == !decide (a.1 > a.2)) (Tr.leaf (AV.bool false) ⟨[], 0⟩) (nd
  (!(((if b.1 > a.1 then b.1 else a.1) == if b.1 > a.1 then b.1 else a.1) && (if b.2 < a.2 then b.2 else a.2) == if b.2 < a.2 then b.2 else a.2)) td (nd (!(((if b.1 > a.1 then b.1
  else a.1) == if b.1 > a.1 then b.1 else a.1) && (if b.2 < a.2 then b.2 else a.2) == if b.2 < a.2 then b.2 else a.2)) td (Tr.leaf (AV.bool !false) ⟨[], 0⟩)))))))) (nd (decide (b.1 >
  b.2)) td (nd (decide (a.1 > a.2)) td (nd (decide (b.1 > b.2)) td (nd (!true == !decide ((if b.1 > a.1 then b.1 else a.1) > if b.2 < a.2 then b.2 else a.2)) (Tr.leaf (AV.bool false)
  ⟨[], 0⟩) (nd (!false == !decide (a.1 > a.2)) (Tr.leaf (AV.bool false) ⟨[], 0⟩) (nd (!(((if b.1 > a.1 then b.1 else a.1) == if b.1 > a.1 then b.1 else a.1) && (if b.2 < a.2 then b.2
  else a.2) == if b.2 < a.2 then b.2 else a.2)) td (nd (!(((if b.1 > a.1 then b.1 else a.1) == if b.1 > a.1 then b.1 else a.1) && (if b.2 < a.2 then b.2 else a.2) == if b.2 < a.2
  then b.2 else a.2)) td (Tr.leaf (AV.bool !false) ⟨[], 0⟩))))))))))) (nd (b.1 == a.1) (nd (b.1 == a.2) (nd (decide (IntKind.i64.wrap (a.1 + 1) > IntKind.i64.wrap (a.2 - 1))) (nd
  (a.1 != a.2) td (nd (a.1 == b.1) (nd (a.1 == b.2) (nd (decide (IntKind.i64.wrap (b.1 + 1) > IntKind.i64.wrap (b.2 - 1))) (nd (!true == !decide ((if b.1 > a.1 then b.1 else a.1) >
  if b.2 < a.2 then b.2 else a.2)) (Tr.leaf (AV.bool false) ⟨[], 0⟩) (nd (!(((if b.1 > a.1 then b.1 else a.1) == if b.1 > a.1 then b.1 else a.1) && (if b.2 < a.2 then b.2 else a.2)
  == if b.2 < a.2 then b.2 else a.2)) td (nd (!(((if b.1 > a.1 then b.1 else a.1) == if b.1 > a.1 then b.1 else a.1) && (if b.2 < a.2 then b.2 else a.2) == if b.2 < a.2 then b.2 else
  a.2)) td (Tr.leaf (AV.bool !false) ⟨[], 0⟩)))) td) td) td)) td) td) td))))))))) (nd (decide (b.1 > b.2)) td (nd (decide (a.1 > IntKind.i64.wrap (a.2 - 1))) td (nd (decide (b.1 >
  b.2)) td (nd (decide (a.1 > a.2)) td (nd (decide (b.1 > b.2)) td (nd (decide ((if b.1 > a.1 then b.1 else a.1) > if b.2 < a.2 then b.2 else a.2)) td (nd (decide ((if b.1 > a.1 then
  b.1 else a.1) > if b.2 < a.2 then b.2 else a.2)) td (nd (decide ((if b.1 > a.1 then b.1 else a.1) > if b.2 < a.2 then b.2 else a.2)) td (nd (decide (a.1 > a.2)) td (nd (decide (b.1
  > b.2)) td (nd (b.1 != b.2) (nd (a.1 != a.2) (nd (decide (a.1 > a.2)) td (nd (decide (b.1 > b.2)) td (nd (!true == !decide ((if b.1 > a.1 then b.1 else a.1) > if b.2 < a.2 then b.2
  else a.2)) (Tr.leaf (AV.bool false) ⟨[], 0⟩) (nd (!true == !decide (a.1 > a.2)) (Tr.leaf (AV.bool false) ⟨[], 0⟩) (nd (!(((if b.1 > a.1 then b.1 else a.1) == if b.1 > a.1 then b.1
  else a.1) && (if b.2 < a.2 then b.2 else a.2) == if b.2 < a.2 then b.2 else a.2)) td (nd (!(((if b.1 > a.1 then b.1 else a.1) == if b.1 > a.1 then b.1 else a.1) && (if b.2 < a.2
  then b.2 else a.2) == if b.2 < a.2 then b.2 else a.2)) td (nd (a.1 == a.1 && IntKind.i64.wrap (a.2 - 1) == a.2) td (Tr.leaf (AV.bool false) ⟨[], 0⟩)))))))) td) (nd (b.1 == a.1) (nd
  (b.1 == a.2) td (nd (decide (IntKind.i64.wrap (a.1 + 1) > a.2)) td (nd (a.1 != a.2) (nd (decide (IntKind.i64.wrap (a.1 + 1) > a.2)) td (nd (decide (b.1 > b.2)) td (nd (!true ==
  !decide ((if b.1 > a.1 then b.1 else a.1) > if b.2 < a.2 then b.2 else a.2)) (Tr.leaf (AV.bool false) ⟨[], 0⟩) (nd (!true == !decide (IntKind.i64.wrap (a.1 + 1) > a.2)) (Tr.leaf
  (AV.bool false) ⟨[], 0⟩) (nd (!(((if b.1 > a.1 then b.1 else a.1) == if b.1 > a.1 then b.1 else a.1) && (if b.2 < a.2 then b.2 else a.2) == if b.2 < a.2 then b.2 else a.2)) td (nd
  (!(((if b.1 > a.1 then b.1 else a.1) == if b.1 > a.1 then b.1 else a.1) && (if b.2 < a.2 then b.2 else a.2) == if b.2 < a.2 then b.2 else a.2)) td (nd (a.1 == IntKind.i64.wrap (a.1
  + 1) && IntKind.i64.wrap (a.2 - 1) == a.2) td (Tr.leaf (AV.bool false) ⟨[], 0⟩)))))))) td))) (nd (b.1 == a.2) (nd (decide (a.1 > IntKind.i64.wrap (a.2 - 1))) td (nd (a.1 != a.2)
  (nd (decide (a.1 > IntKind.i64.wrap (a.2 - 1))) td (nd (decide (b.1 > b.2)) td (nd (!true == !decide ((if b.1 > a.1 then b.1 else a.1) > if b.2 < a.2 then b.2 else a.2)) (Tr.leaf
  (AV.bool false) ⟨[], 0⟩) (nd (!true == !decide (a.1 > IntKind.i64.wrap (a.2 - 1))) (Tr.leaf (AV.bool false) ⟨[], 0⟩) (nd (!(((if b.1 > a.1 then b.1 else a.1) == if b.1 > a.1 then
  b.1 else a.1) && (if b.2 < a.2 then b.2 else a.2) == if b.2 < a.2 then b.2 else a.2)) td (nd (!(((if b.1 > a.1 then b.1 else a.1) == if b.1 > a.1 then b.1 else a.1) && (if b.2 <
  a.2 then b.2 else a.2) == if b.2 < a.2 then b.2 else a.2)) td (nd (a.1 == a.1 && IntKind.i64.wrap (a.2 - 1) == IntKind.i64.wrap (a.2 - 1)) (nd (b.1 == b.1 && b.2 == b.2) (Tr.leaf
  (AV.bool !false) ⟨[], 0⟩) td) td))))))) td)) (nd (decide (a.1 > a.2)) td (nd (a.1 != a.2) (nd (decide (a.1 > a.2)) td (nd (decide (b.1 > b.2)) td (nd (!true == !decide ((if b.1 >
  a.1 then b.1 else a.1) > if b.2 < a.2 then b.2 else a.2)) (Tr.leaf (AV.bool false) ⟨[], 0⟩) (nd (!true == !decide (a.1 > a.2)) (Tr.leaf (AV.bool false) ⟨[], 0⟩) (nd (!(((if b.1 >
  a.1 then b.1 else a.1) == if b.1 > a.1 then b.1 else a.1) && (if b.2 < a.2 then b.2 else a.2) == if b.2 < a.2 then b.2 else a.2)) td (nd (!(((if b.1 > a.1 then b.1 else a.1) == if
  b.1 > a.1 then b.1 else a.1) && (if b.2 < a.2 then b.2 else a.2) == if b.2 < a.2 then b.2 else a.2)) td (nd (a.1 == a.1 && IntKind.i64.wrap (a.2 - 1) == a.2) td (Tr.leaf (AV.bool
  false) ⟨[], 0⟩)))))))) td)))))))))))))))))) td) (nd (a.1 != a.2) (nd (decide (a.1 > a.2)) td (nd (decide (b.1 > b.2)) td (nd (decide (a.1 > a.2)) td (nd (decide (b.1 > b.2)) td (nd
  (decide (a.1 > a.2)) td (nd (decide (b.1 > b.2)) td (nd (decide (a.1 > a.2)) td (nd (decide (b.1 > b.2)) td (nd (decide ((if b.1 > a.1 then b.1 else a.1) > if b.2 < a.2 then b.2
  else a.2)) td (nd (decide ((if b.1 > a.1 then b.1 else a.1) > if b.2 < a.2 then b.2 else a.2)) td (nd (decide ((if b.1 > a.1 then b.1 else a.1) > if b.2 < a.2 then b.2 else a.2))
  td (nd (decide (a.1 > a.2)) td (nd (decide (b.1 > b.2)) td (nd (b.1 != b.2) (nd (a.1 != a.2) (nd (decide (a.1 > a.2)) td (nd (decide (b.1 > b.2)) td (nd (!true == !decide ((if b.1
  > a.1 then b.1 else a.1) > if b.2 < a.2 then b.2 else a.2)) (Tr.leaf (AV.bool false) ⟨[], 0⟩) (nd (!true == !decide (a.1 > a.2)) (Tr.leaf (AV.bool false) ⟨[], 0⟩) (nd (!(((if b.1 >
  a.1 then b.1 else a.1) == if b.1 > a.1 then b.1 else a.1) && (if b.2 < a.2 then b.2 else a.2) == if b.2 < a.2 then b.2 else a.2)) td (nd (!(((if b.1 > a.1 then b.1 else a.1) == if
  b.1 > a.1 then b.1 else a.1) && (if b.2 < a.2 then b.2 else a.2) == if b.2 < a.2 then b.2 else a.2)) td (nd (a.1 == a.1 && a.2 == a.2) (nd (b.1 == b.1 && b.2 == b.2) (Tr.leaf
  (AV.bool !false) ⟨[], 0⟩) td) td))))))) (nd (a.1 == b.1) (nd (a.1 == b.2) td (nd (decide (IntKind.i64.wrap (b.1 + 1) > b.2)) td (nd (decide (a.1 > a.2)) td (nd (decide
  (IntKind.i64.wrap (b.1 + 1) > b.2)) td (nd (!true == !decide ((if b.1 > a.1 then b.1 else a.1) > if b.2 < a.2 then b.2 else a.2)) (Tr.leaf (AV.bool false) ⟨[], 0⟩) (nd (!true ==
  !decide (a.1 > a.2)) (Tr.leaf (AV.bool false) ⟨[], 0⟩) (nd (!(((if b.1 > a.1 then b.1 else a.1) == if b.1 > a.1 then b.1 else a.1) && (if b.2 < a.2 then b.2 else a.2) == if b.2 <
  a.2 then b.2 else a.2)) td (nd (!(((if b.1 > a.1 then b.1 else a.1) == if b.1 > a.1 then b.1 else a.1) && (if b.2 < a.2 then b.2 else a.2) == if b.2 < a.2 then b.2 else a.2)) td
  (nd (a.1 == a.1 && a.2 == a.2) (nd (b.1 == IntKind.i64.wrap (b.1 + 1) && b.2 == b.2) (Tr.leaf (AV.bool !false) ⟨[], 0⟩) (Tr.leaf (AV.bool false) ⟨[], 0⟩)) td))))))))) (nd (a.1 ==
  b.2) (nd (decide (b.1 > IntKind.i64.wrap (b.2 - 1))) td (nd (decide (a.1 > a.2)) td (nd (decide (b.1 > IntKind.i64.wrap (b.2 - 1))) td (nd (!true == !decide ((if b.1 > a.1 then b.1
  else a.1) > if b.2 < a.2 then b.2 else a.2)) (Tr.leaf (AV.bool false) ⟨[], 0⟩) (nd (!true == !decide (a.1 > a.2)) (Tr.leaf (AV.bool false) ⟨[], 0⟩) (nd (!(((if b.1 > a.1 then b.1
  else a.1) == if b.1 > a.1 then b.1 else a.1) && (if b.2 < a.2 then b.2 else a.2) == if b.2 < a.2 then b.2 else a.2)) td (nd (!(((if b.1 > a.1 then b.1 else a.1) == if b.1 > a.1
  then b.1 else a.1) && (if b.2 < a.2 then b.2 else a.2) == if b.2 < a.2 then b.2 else a.2)) td (nd (a.1 == a.1 && a.2 == a.2) (nd (b.1 == b.1 && b.2 == IntKind.i64.wrap (b.2 - 1))
  (Tr.leaf (AV.bool !false) ⟨[], 0⟩) (Tr.leaf (AV.bool false) ⟨[], 0⟩)) td)))))))) (nd (decide (b.1 > b.2)) td (nd (decide (a.1 > a.2)) td (nd (decide (b.1 > b.2)) td (nd (!true ==
  !decide ((if b.1 > a.1 then b.1 else a.1) > if b.2 < a.2 then b.2 else a.2)) (Tr.leaf (AV.bool false) ⟨[], 0⟩) (nd (!true == !decide (a.1 > a.2)) (Tr.leaf (AV.bool false) ⟨[], 0⟩)
  (nd (!(((if b.1 > a.1 then b.1 else a.1) == if b.1 > a.1 then b.1 else a.1) && (if b.2 < a.2 then b.2 else a.2) == if b.2 < a.2 then b.2 else a.2)) td (nd (!(((if b.1 > a.1 then
  b.1 else a.1) == if b.1 > a.1 then b.1 else a.1) && (if b.2 < a.2 then b.2 else a.2) == if b.2 < a.2 then b.2 else a.2)) td (nd (a.1 == a.1 && a.2 == a.2) (nd (b.1 == b.1 && b.2 ==
  b.2) (Tr.leaf (AV.bool !false) ⟨[], 0⟩) td) td))))))))))) (nd (b.1 == a.1) (nd (b.1 == a.2) (nd (decide (IntKind.i64.wrap (a.1 + 1) > IntKind.i64.wrap (a.2 - 1))) (nd (a.1 != a.2)
  td (nd (a.1 == b.1) (nd (a.1 == b.2) (nd (decide (IntKind.i64.wrap (b.1 + 1) > IntKind.i64.wrap (b.2 - 1))) (nd (!true == !decide ((if b.1 > a.1 then b.1 else a.1) > if b.2 < a.2
  then b.2 else a.2)) (Tr.leaf (AV.bool false) ⟨[], 0⟩) (Tr.leaf (AV.bool false) ⟨[], 0⟩)) td) td) td)) td) (nd (decide (IntKind.i64.wrap (a.1 + 1) > a.2)) td (nd (a.1 != a.2) (nd
  (decide (IntKind.i64.wrap (a.1 + 1) > a.2)) td (nd (decide (b.1 > b.2)) td (nd (!true == !decide ((if b.1 > a.1 then b.1 else a.1) > if b.2 < a.2 then b.2 else a.2)) (Tr.leaf
  (AV.bool false) ⟨[], 0⟩) (nd (!true == !decide (IntKind.i64.wrap (a.1 + 1) > a.2)) (Tr.leaf (AV.bool false) ⟨[], 0⟩) (nd (!(((if b.1 > a.1 then b.1 else a.1) == if b.1 > a.1 then
  b.1 else a.1) && (if b.2 < a.2 then b.2 else a.2) == if b.2 < a.2 then b.2 else a.2)) td (nd (!(((if b.1 > a.1 then b.1 else a.1) == if b.1 > a.1 then b.1 else a.1) && (if b.2 <
  a.2 then b.2 else a.2) == if b.2 < a.2 then b.2 else a.2)) td (nd (a.1 == IntKind.i64.wrap (a.1 + 1) && a.2 == a.2) (nd (b.1 == b.1 && b.2 == b.2) (Tr.leaf (AV.bool !false) ⟨[],
  0⟩) td) (Tr.leaf (AV.bool false) ⟨[], 0⟩)))))))) td))) (nd (b.1 == a.2) (nd (decide (a.1 > IntKind.i64.wrap (a.2 - 1))) td (nd (a.1 != a.2) (nd (decide (a.1 > IntKind.i64.wrap (a.2
  - 1))) td (nd (decide (b.1 > b.2)) td (nd (!true == !decide ((if b.1 > a.1 then b.1 else a.1) > if b.2 < a.2 then b.2 else a.2)) (Tr.leaf (AV.bool false) ⟨[], 0⟩) (nd (!true ==
  !decide (a.1 > IntKind.i64.wrap (a.2 - 1))) (Tr.leaf (AV.bool false) ⟨[], 0⟩) (nd (!(((if b.1 > a.1 then b.1 else a.1) == if b.1 > a.1 then b.1 else a.1) && (if b.2 < a.2 then b.2
  else a.2) == if b.2 < a.2 then b.2 else a.2)) td (nd (!(((if b.1 > a.1 then b.1 else a.1) == if b.1 > a.1 then b.1 else a.1) && (if b.2 < a.2 then b.2 else a.2) == if b.2 < a.2
  then b.2 else a.2)) td (nd (a.1 == a.1 && a.2 == IntKind.i64.wrap (a.2 - 1)) (nd (b.1 == b.1 && b.2 == b.2) (Tr.leaf (AV.bool !false) ⟨[], 0⟩) td) (Tr.leaf (AV.bool false) ⟨[],
  0⟩)))))))) td)) (nd (decide (a.1 > a.2)) td (nd (a.1 != a.2) (nd (decide (a.1 > a.2)) td (nd (decide (b.1 > b.2)) td (nd (!true == !decide ((if b.1 > a.1 then b.1 else a.1) > if
  b.2 < a.2 then b.2 else a.2)) (Tr.leaf (AV.bool false) ⟨[], 0⟩) (nd (!true == !decide (a.1 > a.2)) (Tr.leaf (AV.bool false) ⟨[], 0⟩) (nd (!(((if b.1 > a.1 then b.1 else a.1) == if
  b.1 > a.1 then b.1 else a.1) && (if b.2 < a.2 then b.2 else a.2) == if b.2 < a.2 then b.2 else a.2)) td (nd (!(((if b.1 > a.1 then b.1 else a.1) == if b.1 > a.1 then b.1 else a.1)
  && (if b.2 < a.2 then b.2 else a.2) == if b.2 < a.2 then b.2 else a.2)) td (nd (a.1 == a.1 && a.2 == a.2) (nd (b.1 == b.1 && b.2 == b.2) (Tr.leaf (AV.bool !false) ⟨[], 0⟩) td)
  td))))))) td)))))))))))))))))) (nd (b.1 == a.1) td (nd (b.2 == a.1) td (nd (decide (a.1 > a.2)) td (nd (decide (b.1 > b.2)) td (nd (decide (a.1 > a.2)) td (nd (decide (b.1 > b.2))
  td (nd (decide (a.1 > a.2)) td (nd (decide (b.1 > b.2)) td (nd (decide (a.1 > a.2)) td (nd (decide (b.1 > b.2)) td (nd (decide ((if b.1 > a.1 then b.1 else a.1) > if b.2 < a.2 then
  b.2 else a.2)) td (nd (decide ((if b.1 > a.1 then b.1 else a.1) > if b.2 < a.2 then b.2 else a.2)) td (nd (decide ((if b.1 > a.1 then b.1 else a.1) > if b.2 < a.2 then b.2 else
  a.2)) td (nd (decide (a.1 > a.2)) td (nd (decide (b.1 > b.2)) td (nd (b.1 != b.2) (nd (a.1 != a.2) (nd (decide (a.1 > a.2)) td (nd (decide (b.1 > b.2)) td (nd (!true == !decide
  ((if b.1 > a.1 then b.1 else a.1) > if b.2 < a.2 then b.2 else a.2)) (Tr.leaf (AV.bool false) ⟨[], 0⟩) (nd (!true == !decide (a.1 > a.2)) (Tr.leaf (AV.bool false) ⟨[], 0⟩) (nd
  (!(((if b.1 > a.1 then b.1 else a.1) == if b.1 > a.1 then b.1 else a.1) && (if b.2 < a.2 then b.2 else a.2) == if b.2 < a.2 then b.2 else a.2)) td (nd (!(((if b.1 > a.1 then b.1
  else a.1) == if b.1 > a.1 then b.1 else a.1) && (if b.2 < a.2 then b.2 else a.2) == if b.2 < a.2 then b.2 else a.2)) td (nd (a.1 == a.1 && a.2 == a.2) (nd (b.1 == b.1 && b.2 ==
  b.2) (Tr.leaf (AV.bool !false) ⟨[], 0⟩) td) td))))))) (nd (a.1 == b.1) (nd (a.1 == b.2) td (nd (decide (IntKind.i64.wrap (b.1 + 1) > b.2)) td (nd (decide (a.1 > a.2)) td (nd
  (decide (IntKind.i64.wrap (b.1 + 1) > b.2)) td (nd (!true == !decide ((if b.1 > a.1 then b.1 else a.1) > if b.2 < a.2 then b.2 else a.2)) (Tr.leaf (AV.bool false) ⟨[], 0⟩) (nd
  (!true == !decide (a.1 > a.2)) (Tr.leaf (AV.bool false) ⟨[], 0⟩) (nd (!(((if b.1 > a.1 then b.1 else a.1) == if b.1 > a.1 then b.1 else a.1) && (if b.2 < a.2 then b.2 else a.2) ==
  if b.2 < a.2 then b.2 else a.2)) td (nd (!(((if b.1 > a.1 then b.1 else a.1) == if b.1 > a.1 then b.1 else a.1) && (if b.2 < a.2 then b.2 else a.2) == if b.2 < a.2 then b.2 else
  a.2)) td (nd (a.1 == a.1 && a.2 == a.2) (nd (b.1 == IntKind.i64.wrap (b.1 + 1) && b.2 == b.2) (Tr.leaf (AV.bool !false) ⟨[], 0⟩) (Tr.leaf (AV.bool false) ⟨[], 0⟩)) td))))))))) (nd
  (a.1 == b.2) (nd (decide (b.1 > IntKind.i64.wrap (b.2 - 1))) td (nd (decide (a.1 > a.2)) td (nd (decide (b.1 > IntKind.i64.wrap (b.2 - 1))) td (nd (!true == !decide ((if b.1 > a.1
  then b.1 else a.1) > if b.2 < a.2 then b.2 else a.2)) (Tr.leaf (AV.bool false) ⟨[], 0⟩) (nd (!true == !decide (a.1 > a.2)) (Tr.leaf (AV.bool false) ⟨[], 0⟩) (nd (!(((if b.1 > a.1
  then b.1 else a.1) == if b.1 > a.1 then b.1 else a.1) && (if b.2 < a.2 then b.2 else a.2) == if b.2 < a.2 then b.2 else a.2)) td (nd (!(((if b.1 > a.1 then b.1 else a.1) == if b.1
  > a.1 then b.1 else a.1) && (if b.2 < a.2 then b.2 else a.2) == if b.2 < a.2 then b.2 else a.2)) td (nd (a.1 == a.1 && a.2 == a.2) (nd (b.1 == b.1 && b.2 == IntKind.i64.wrap (b.2 -
  1)) (Tr.leaf (AV.bool !false) ⟨[], 0⟩) (Tr.leaf (AV.bool false) ⟨[], 0⟩)) td)))))))) (nd (decide (b.1 > b.2)) td (nd (decide (a.1 > a.2)) td (nd (decide (b.1 > b.2)) td (nd (!true
  == !decide ((if b.1 > a.1 then b.1 else a.1) > if b.2 < a.2 then b.2 else a.2)) (Tr.leaf (AV.bool false) ⟨[], 0⟩) (nd (!true == !decide (a.1 > a.2)) (Tr.leaf (AV.bool false) ⟨[],
  0⟩) (nd (!(((if b.1 > a.1 then b.1 else a.1) == if b.1 > a.1 then b.1 else a.1) && (if b.2 < a.2 then b.2 else a.2) == if b.2 < a.2 then b.2 else a.2)) td (nd (!(((if b.1 > a.1
  then b.1 else a.1) == if b.1 > a.1 then b.1 else a.1) && (if b.2 < a.2 then b.2 else a.2) == if b.2 < a.2 then b.2 else a.2)) td (nd (a.1 == a.1 && a.2 == a.2) (nd (b.1 == b.1 &&
  b.2 == b.2) (Tr.leaf (AV.bool !false) ⟨[], 0⟩) td) td))))))))))) (nd (b.1 == a.1) (nd (b.1 == a.2) (nd (decide (IntKind.i64.wrap (a.1 + 1) > IntKind.i64.wrap (a.2 - 1))) (nd (a.1
  != a.2) td (nd (a.1 == b.1) (nd (a.1 == b.2) (nd (decide (IntKind.i64.wrap (b.1 + 1) > IntKind.i64.wrap (b.2 - 1))) (nd (!true == !decide ((if b.1 > a.1 then b.1 else a.1) > if b.2
  < a.2 then b.2 else a.2)) (Tr.leaf (AV.bool false) ⟨[], 0⟩) (Tr.leaf (AV.bool false) ⟨[], 0⟩)) td) td) td)) td) (nd (decide (IntKind.i64.wrap (a.1 + 1) > a.2)) td (nd (a.1 != a.2)
  (nd (decide (IntKind.i64.wrap (a.1 + 1) > a.2)) td (nd (decide (b.1 > b.2)) td (nd (!true == !decide ((if b.1 > a.1 then b.1 else a.1) > if b.2 < a.2 then b.2 else a.2)) (Tr.leaf
  (AV.bool false) ⟨[], 0⟩) (nd (!true == !decide (IntKind.i64.wrap (a.1 + 1) > a.2)) (Tr.leaf (AV.bool false) ⟨[], 0⟩) (nd (!(((if b.1 > a.1 then b.1 else a.1) == if b.1 > a.1 then
  b.1 else a.1) && (if b.2 < a.2 then b.2 else a.2) == if b.2 < a.2 then b.2 else a.2)) td (nd (!(((if b.1 > a.1 then b.1 else a.1) == if b.1 > a.1 then b.1 else a.1) && (if b.2 <
  a.2 then b.2 else a.2) == if b.2 < a.2 then b.2 else a.2)) td (nd (a.1 == IntKind.i64.wrap (a.1 + 1) && a.2 == a.2) (nd (b.1 == b.1 && b.2 == b.2) (Tr.leaf (AV.bool !false) ⟨[],
  0⟩) td) (Tr.leaf (AV.bool false) ⟨[], 0⟩)))))))) td))) (nd (b.1 == a.2) (nd (decide (a.1 > IntKind.i64.wrap (a.2 - 1))) td (nd (a.1 != a.2) (nd (decide (a.1 > IntKind.i64.wrap (a.2
  - 1))) td (nd (decide (b.1 > b.2)) td (nd (!true == !decide ((if b.1 > a.1 then b.1 else a.1) > if b.2 < a.2 then b.2 else a.2)) (Tr.leaf (AV.bool false) ⟨[], 0⟩) (nd (!true ==
  !decide (a.1 > IntKind.i64.wrap (a.2 - 1))) (Tr.leaf (AV.bool false) ⟨[], 0⟩) (nd (!(((if b.1 > a.1 then b.1 else a.1) == if b.1 > a.1 then b.1 else a.1) && (if b.2 < a.2 then b.2
  else a.2) == if b.2 < a.2 then b.2 else a.2)) td (nd (!(((if b.1 > a.1 then b.1 else a.1) == if b.1 > a.1 then b.1 else a.1) && (if b.2 < a.2 then b.2 else a.2) == if b.2 < a.2
  then b.2 else a.2)) td (nd (a.1 == a.1 && a.2 == IntKind.i64.wrap (a.2 - 1)) (nd (b.1 == b.1 && b.2 == b.2) (Tr.leaf (AV.bool !false) ⟨[], 0⟩) td) (Tr.leaf (AV.bool false) ⟨[],
  0⟩)))))))) td)) (nd (decide (a.1 > a.2)) td (nd (a.1 != a.2) (nd (decide (a.1 > a.2)) td (nd (decide (b.1 > b.2)) td (nd (!true == !decide ((if b.1 > a.1 then b.1 else a.1) > if
  b.2 < a.2 then b.2 else a.2)) (Tr.leaf (AV.bool false) ⟨[], 0⟩) (nd (!true == !decide (a.1 > a.2)) (Tr.leaf (AV.bool false) ⟨[], 0⟩) (nd (!(((if b.1 > a.1 then b.1 else a.1) == if
  b.1 > a.1 then b.1 else a.1) && (if b.2 < a.2 then b.2 else a.2) == if b.2 < a.2 then b.2 else a.2)) td (nd (!(((if b.1 > a.1 then b.1 else a.1) == if b.1 > a.1 then b.1 else a.1)
  && (if b.2 < a.2 then b.2 else a.2) == if b.2 < a.2 then b.2 else a.2)) td (nd (a.1 == a.1 && a.2 == a.2) (nd (b.1 == b.1 && b.2 == b.2) (Tr.leaf (AV.bool !false) ⟨[], 0⟩) td)
  td))))))) td)))))))))))))))))))))))))))))))))))) td) tT) tT) tT))) td) tT) tT) tT) := by kernel_rfl
theorem law3_3 (a b : I) : ∃ w, (evW cxD keeps 12 3 [.agg [.int .i64 a.1, .int .i64 a.2], .agg [.int .i64 b.1, .int .i64 b.2], .int .i64 3] w).sem = some (.bool true, ⟨[], 0⟩) := by
  refine ⟨_, of_tree (fb3 a b) ?_⟩
  (repeat' first | exact rfl | refine sem_node (fun h => ?_) (fun h => ?_)) <;> (exfalso; (try simp only [decide_eq_true_eq, decide_eq_false_iff_not, Bool.and_eq_true, Bool.and_eq_false_iff, Bool.or_eq_true, Bool.or_eq_false_iff, Bool.not_eq_true', Bool.not_eq_false', beq_iff_eq, beq_eq_false_iff_ne, bne_iff_ne, ne_eq, bne_eq_false_iff_eq, beq_self_eq_true, Bool.and_self, Bool.not_true, Bool.not_false, Bool.true_and, Bool.and_true, Bool.false_and, Bool.and_false, Bool.true_eq_false, Bool.false_eq_true, tn_eq, fn_eq, td_eq, fd_eq, Bool.not_eq_true, Bool.not_eq_false, bne, Bool.not_not] at *) <;> (try simp (disch := omega) only [wrap_small] at *) <;> (try simp only [ite_min, ite_max] at *) <;> omega)
end Go.Proofs.Ytabffaaoldfjkaa.Ex

