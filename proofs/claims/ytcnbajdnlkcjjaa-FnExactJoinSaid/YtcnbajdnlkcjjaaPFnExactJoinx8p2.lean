/- A law's walk, written in parts: this is part 2. It has no condition of its own. -/
import Derived.Test.YtcnbajdnlkcjjaaPFnExactJoinx8
namespace Go.Proofs.Ytcnbajdnlkcjjaa.PFnExactJoin
open Go.RowKit Go.Proofs.YtcnbajdnlkcjjaaW.PrintWords Go.Proofs.YtcnbajdnlkcjjaaW.PrintLast Go.Proofs.YtcnbajdnlkcjjaaW.PrintMore Go.Proofs.YtcnbajdnlkcjjaaQ
attribute [local go_sem] max2_int min2_int max_two min_two max_three min_three max_four min_four   -- for this text's walks alone
set_option linter.unusedVariables false
set_option linter.unusedSimpArgs false
set_option maxHeartbeats 8000000 in
set_option maxRecDepth 100000 in
theorem laws_FnExactJoin.part2 : laws_FnExactJoin.part1.1 := by
             intro k A0_0 c0_0 l0_0 A0_1 c0_1 l0_1 A1_0 c1_0 l1_0 A1_1 c1_1 l1_1 r w HT hu24 hu26 HR0_0 HC0_0 HR0_1 HC0_1 HR1_0 HC1_0 HR1_1 HC1_1 t342 A3 c4b0 t343 A10 c11b0 t344 t347 A19 t350 t353 A20 t356 t359 t362 A21 t364 t367 A22 t371 t374 A23 t378 t381 t384 A24 _ gb340 w26 GW340 GE340 gb341 w27 GW341 GE341 NB340_341 NB341_340 hnb28 hnc28 hcz29_0 hcz29_1 hfz29_0 hfz29_1 w30 hcz31_0 hcz31_1 hfz31_0 hfz31_1 w32 _ _ w33 _ v345 v348 v351 v354 gb363 w42 hS_ GW363 GE363 NB340_363 NB363_340 NB341_363 NB363_341 _ Ao43 co43 Ao45 co45 hs44 hfs44 hns44_0 hns44_1 hms44_0 hms44_1 hs46 hfs46 hns46_0 hns46_1 hms46_0 hms46_1 _ hnb47 hnc47 w49 gb370 w50 GW370 GE370 NB340_370 NB370_340 NB341_370 NB370_341 NB363_370 NB370_363 Ao51 co51 hnb52 hnc52 hnb53 hnc53 hnb54 hnc54 Ao56 co56 hnb57 hnc57 w59 gb377 w60 GW377 GE377 NB340_377 NB377_340 NB341_377 NB377_341 NB363_377 NB377_363 NB370_377 NB377_370 Ao61 co61 hnb62 hnc62 hnb63 hnc63 hnb64 hnc64 hnb65 hnc65 Ao67 co67 w69 gb385 w70 _ GW385 GE385 _ NB340_385 NB385_340 _ NB341_385 NB385_341 _ NB363_385 NB385_363 _ NB370_385 NB385_370 _ NB377_385 NB385_377 _ Ao71 co71 hnb72 hnc72 hnb73 hnc73 hnb74 hnc74 hnb75 hnc75 hnb76 hnc76 Ao78 co78 HO346 HO349 HO352 HO355 HO358 HO361 HO366 HO369 HO373 HO376 HO380 HO383 _ _ _ _ _ _ _ _ _ _ _ _ _ _ _ _ _ _ _ _ _ _ _ _ _ _ _ _ _ _ _ _ _ _ _ _ _ _ _ _ _ _ _ _ _ _ _ _ _ _ _ _ _ _ _ _ _ _ _ _ _ _ _ _ _ u82 _ _ _ _ _ _ _ _ _ _ _ _ _ _ _ _ _ _ _ _ _ _ _ _ _ _ _ _ _ _ _ _ _ _ _ _ kj24 HJ24 t387 t390 A94 A95 t394 t397 A97 A98 t401 t402 t403 A100 t404 t405 t406 A101 w103 _ w104 Ao105 co105 Ao106 co106 _ w107 _ w108 _ w109 Ao110 co110 Ao111 co111 _ w112 _ hnb113 hnc113 hnb114 hnc114 hnb115 hnc115 hnb116 hnc116 hnb117 hnc117 w119 hnb120 hnc120 hnb121 hnc121 hnb122 hnc122 hnb123 hnc123 w125 _ _ _ _ _ _ _ _ _ _ _ _ _ _ HO389 HO392 HO396 HO399 _ wc u17 u18 u19 u20 u21 u22 u23 u24 u25 u26 u27 u28 u29 u30 u31 u32 u33 u34 u35 u36 u37 u38 u39 u40 u41 u42 u43 u44 u45 u46 u47 u48 u49 u50 u51 u52 u53 u54 u55 u56 u57 u58 u59 u60 u61 u62 u63 u64 u65 u66 u67 u68 u69 u70 u71 u72 u73 u74 u75 u76 u77 u78 u79 u80 u81 u83 u84 u85 u86 u87 u88 u89 u90 u91 u92 u93 u94 u95 u96 u97 u98 u99 u100 u101 u102 u103 u104 u105 u106 u107 u108 u109 u110 u111 u112 u113 u114 u115 u116 u117 u118 hl371000_101 hl371001_101 hl378000_101 hl378001_101 kj101 HJ101 t408 t409 t410 A142 t411 A143 c144b0 c145b0 c145b1 t412 t415 A146 t418 t421 A147 t424 t427 t430 A148 HC149 hnb150 hnc150 hnb151 hnc151 hnb152 hnc152 hnb153 hnc153 hnb154 hnc154 hcz155_0 hcz155_1 hfz155_0 hfz155_1 w156 hcz157_0 hcz157_1 hfz157_0 hfz157_1 w158 _ _ HT_ HW_ w159 HO_364000 HO_364001 HO_371000 HO_371001 HO_378000 HO_378001 HO_386000 HO_386001 BK340 BK341 BK363 BK370 BK377 BK385 HB hHeld
             refine join_ (σ := Value × Value × Value × Value × Value × Value × Nat) 2 #[true, true, true, true, true, true, true, true, true, false, false] (fun s_ => [(96, .agg #[s_.1, s_.2.1]), (98, .agg #[s_.2.2.1, s_.2.2.2.1]), (99, .tuple #[.agg #[s_.2.2.2.2.1, s_.2.2.2.2.2.1], .int .i64 t430]), (15, .pointer (some ⟨s_.2.2.2.2.2.2, 0, none⟩)), (94, .tuple #[.agg #[s_.2.2.2.2.1, s_.2.2.2.2.2.1], .int .i64 t430]), (100, .agg #[s_.2.2.2.2.1, s_.2.2.2.2.2.1]), (101, .int .i64 t430)]) (fun s_ w' => (w'.cell? ⟨gb340, 0, none⟩ = some (.slice A0_0 l0_0.length c0_0) ∧ w'.cell? ⟨gb340, 1, none⟩ = some (.slice A0_1 l0_1.length c0_1) ∧ w'.cell? ⟨gb341, 0, none⟩ = some (.slice A1_0 l1_0.length c1_0) ∧ w'.cell? ⟨gb341, 1, none⟩ = some (.slice A1_1 l1_1.length c1_1)) ∧ (Kd.R (Kd.int .i64) 3 w' w.heap.size (fun k_ => some k_ ≠ (s_.2.1 : Value).ownBlock ∧ some k_ ≠ (s_.2.2.1 : Value).ownBlock ∧ some k_ ≠ (s_.2.2.2.1 : Value).ownBlock ∧ some k_ ≠ (s_.2.2.2.2.1 : Value).ownBlock ∧ some k_ ≠ (s_.2.2.2.2.2.1 : Value).ownBlock ∧ some k_ ≠ (.slice Ao51 t402.length co51 : Value).ownBlock ∧ some k_ ≠ (.slice Ao56 t403.length co56 : Value).ownBlock ∧ some k_ ≠ (.slice Ao61 t405.length co61 : Value).ownBlock ∧ some k_ ≠ (.slice Ao67 t406.length co67 : Value).ownBlock ∧ some k_ ≠ (.slice Ao71 t378.length co71 : Value).ownBlock ∧ some k_ ≠ (.slice Ao78 t381.length co78 : Value).ownBlock) s_.1 t412) ∧ (Kd.R (Kd.int .i64) 3 w' w.heap.size (fun k_ => some k_ ≠ (s_.1 : Value).ownBlock ∧ some k_ ≠ (s_.2.2.1 : Value).ownBlock ∧ some k_ ≠ (s_.2.2.2.1 : Value).ownBlock ∧ some k_ ≠ (s_.2.2.2.2.1 : Value).ownBlock ∧ some k_ ≠ (s_.2.2.2.2.2.1 : Value).ownBlock ∧ some k_ ≠ (.slice Ao51 t402.length co51 : Value).ownBlock ∧ some k_ ≠ (.slice Ao56 t403.length co56 : Value).ownBlock ∧ some k_ ≠ (.slice Ao61 t405.length co61 : Value).ownBlock ∧ some k_ ≠ (.slice Ao67 t406.length co67 : Value).ownBlock ∧ some k_ ≠ (.slice Ao71 t378.length co71 : Value).ownBlock ∧ some k_ ≠ (.slice Ao78 t381.length co78 : Value).ownBlock) s_.2.1 t415) ∧ (Kd.R (Kd.int .i64) 3 w' w.heap.size (fun k_ => some k_ ≠ (s_.1 : Value).ownBlock ∧ some k_ ≠ (s_.2.1 : Value).ownBlock ∧ some k_ ≠ (s_.2.2.2.1 : Value).ownBlock ∧ some k_ ≠ (s_.2.2.2.2.1 : Value).ownBlock ∧ some k_ ≠ (s_.2.2.2.2.2.1 : Value).ownBlock ∧ some k_ ≠ (.slice Ao51 t402.length co51 : Value).ownBlock ∧ some k_ ≠ (.slice Ao56 t403.length co56 : Value).ownBlock ∧ some k_ ≠ (.slice Ao61 t405.length co61 : Value).ownBlock ∧ some k_ ≠ (.slice Ao67 t406.length co67 : Value).ownBlock ∧ some k_ ≠ (.slice Ao71 t378.length co71 : Value).ownBlock ∧ some k_ ≠ (.slice Ao78 t381.length co78 : Value).ownBlock) s_.2.2.1 t418) ∧ (Kd.R (Kd.int .i64) 3 w' w.heap.size (fun k_ => some k_ ≠ (s_.1 : Value).ownBlock ∧ some k_ ≠ (s_.2.1 : Value).ownBlock ∧ some k_ ≠ (s_.2.2.1 : Value).ownBlock ∧ some k_ ≠ (s_.2.2.2.2.1 : Value).ownBlock ∧ some k_ ≠ (s_.2.2.2.2.2.1 : Value).ownBlock ∧ some k_ ≠ (.slice Ao51 t402.length co51 : Value).ownBlock ∧ some k_ ≠ (.slice Ao56 t403.length co56 : Value).ownBlock ∧ some k_ ≠ (.slice Ao61 t405.length co61 : Value).ownBlock ∧ some k_ ≠ (.slice Ao67 t406.length co67 : Value).ownBlock ∧ some k_ ≠ (.slice Ao71 t378.length co71 : Value).ownBlock ∧ some k_ ≠ (.slice Ao78 t381.length co78 : Value).ownBlock) s_.2.2.2.1 t421) ∧ (Kd.R (Kd.int .i64) 3 w' w.heap.size (fun k_ => some k_ ≠ (s_.1 : Value).ownBlock ∧ some k_ ≠ (s_.2.1 : Value).ownBlock ∧ some k_ ≠ (s_.2.2.1 : Value).ownBlock ∧ some k_ ≠ (s_.2.2.2.1 : Value).ownBlock ∧ some k_ ≠ (s_.2.2.2.2.2.1 : Value).ownBlock ∧ some k_ ≠ (.slice Ao51 t402.length co51 : Value).ownBlock ∧ some k_ ≠ (.slice Ao56 t403.length co56 : Value).ownBlock ∧ some k_ ≠ (.slice Ao61 t405.length co61 : Value).ownBlock ∧ some k_ ≠ (.slice Ao67 t406.length co67 : Value).ownBlock ∧ some k_ ≠ (.slice Ao71 t378.length co71 : Value).ownBlock ∧ some k_ ≠ (.slice Ao78 t381.length co78 : Value).ownBlock) s_.2.2.2.2.1 t424) ∧ (Kd.R (Kd.int .i64) 3 w' w.heap.size (fun k_ => some k_ ≠ (s_.1 : Value).ownBlock ∧ some k_ ≠ (s_.2.1 : Value).ownBlock ∧ some k_ ≠ (s_.2.2.1 : Value).ownBlock ∧ some k_ ≠ (s_.2.2.2.1 : Value).ownBlock ∧ some k_ ≠ (s_.2.2.2.2.1 : Value).ownBlock ∧ some k_ ≠ (.slice Ao51 t402.length co51 : Value).ownBlock ∧ some k_ ≠ (.slice Ao56 t403.length co56 : Value).ownBlock ∧ some k_ ≠ (.slice Ao61 t405.length co61 : Value).ownBlock ∧ some k_ ≠ (.slice Ao67 t406.length co67 : Value).ownBlock ∧ some k_ ≠ (.slice Ao71 t378.length co71 : Value).ownBlock ∧ some k_ ≠ (.slice Ao78 t381.length co78 : Value).ownBlock) s_.2.2.2.2.2.1 t427) ∧ (Kd.V (Kd.int .i64) 3 w' w.heap.size (fun k_ => some k_ ≠ (s_.1 : Value).ownBlock ∧ some k_ ≠ (s_.2.1 : Value).ownBlock ∧ some k_ ≠ (s_.2.2.1 : Value).ownBlock ∧ some k_ ≠ (s_.2.2.2.1 : Value).ownBlock ∧ some k_ ≠ (s_.2.2.2.2.1 : Value).ownBlock ∧ some k_ ≠ (s_.2.2.2.2.2.1 : Value).ownBlock ∧ some k_ ≠ (.slice Ao51 t402.length co51 : Value).ownBlock ∧ some k_ ≠ (.slice Ao56 t403.length co56 : Value).ownBlock ∧ some k_ ≠ (.slice Ao61 t405.length co61 : Value).ownBlock ∧ some k_ ≠ (.slice Ao67 t406.length co67 : Value).ownBlock ∧ some k_ ≠ (.slice Ao71 t378.length co71 : Value).ownBlock ∧ some k_ ≠ (.slice Ao78 t381.length co78 : Value).ownBlock ∧ k_ ≠ gb340 ∧ k_ ≠ gb341 ∧ k_ ≠ gb363 ∧ k_ ≠ gb370 ∧ k_ ≠ gb377 ∧ k_ ≠ gb385 ∧ k_ ≠ s_.2.2.2.2.2.2) (.slice Ao43 t356.length co43) t356) ∧ (Kd.V (Kd.int .i64) 3 w' w.heap.size (fun k_ => some k_ ≠ (s_.1 : Value).ownBlock ∧ some k_ ≠ (s_.2.1 : Value).ownBlock ∧ some k_ ≠ (s_.2.2.1 : Value).ownBlock ∧ some k_ ≠ (s_.2.2.2.1 : Value).ownBlock ∧ some k_ ≠ (s_.2.2.2.2.1 : Value).ownBlock ∧ some k_ ≠ (s_.2.2.2.2.2.1 : Value).ownBlock ∧ some k_ ≠ (.slice Ao51 t402.length co51 : Value).ownBlock ∧ some k_ ≠ (.slice Ao56 t403.length co56 : Value).ownBlock ∧ some k_ ≠ (.slice Ao61 t405.length co61 : Value).ownBlock ∧ some k_ ≠ (.slice Ao67 t406.length co67 : Value).ownBlock ∧ some k_ ≠ (.slice Ao71 t378.length co71 : Value).ownBlock ∧ some k_ ≠ (.slice Ao78 t381.length co78 : Value).ownBlock ∧ k_ ≠ gb340 ∧ k_ ≠ gb341 ∧ k_ ≠ gb363 ∧ k_ ≠ gb370 ∧ k_ ≠ gb377 ∧ k_ ≠ gb385 ∧ k_ ≠ s_.2.2.2.2.2.2) (.slice Ao45 t359.length co45) t359) ∧ (Kd.R (Kd.int .i64) 3 w' w.heap.size (fun k_ => some k_ ≠ (s_.1 : Value).ownBlock ∧ some k_ ≠ (s_.2.1 : Value).ownBlock ∧ some k_ ≠ (s_.2.2.1 : Value).ownBlock ∧ some k_ ≠ (s_.2.2.2.1 : Value).ownBlock ∧ some k_ ≠ (s_.2.2.2.2.1 : Value).ownBlock ∧ some k_ ≠ (s_.2.2.2.2.2.1 : Value).ownBlock ∧ some k_ ≠ (.slice Ao56 t403.length co56 : Value).ownBlock ∧ some k_ ≠ (.slice Ao61 t405.length co61 : Value).ownBlock ∧ some k_ ≠ (.slice Ao67 t406.length co67 : Value).ownBlock ∧ some k_ ≠ (.slice Ao71 t378.length co71 : Value).ownBlock ∧ some k_ ≠ (.slice Ao78 t381.length co78 : Value).ownBlock) (.slice Ao51 t402.length co51) t402) ∧ (Kd.R (Kd.int .i64) 3 w' w.heap.size (fun k_ => some k_ ≠ (s_.1 : Value).ownBlock ∧ some k_ ≠ (s_.2.1 : Value).ownBlock ∧ some k_ ≠ (s_.2.2.1 : Value).ownBlock ∧ some k_ ≠ (s_.2.2.2.1 : Value).ownBlock ∧ some k_ ≠ (s_.2.2.2.2.1 : Value).ownBlock ∧ some k_ ≠ (s_.2.2.2.2.2.1 : Value).ownBlock ∧ some k_ ≠ (.slice Ao51 t402.length co51 : Value).ownBlock ∧ some k_ ≠ (.slice Ao61 t405.length co61 : Value).ownBlock ∧ some k_ ≠ (.slice Ao67 t406.length co67 : Value).ownBlock ∧ some k_ ≠ (.slice Ao71 t378.length co71 : Value).ownBlock ∧ some k_ ≠ (.slice Ao78 t381.length co78 : Value).ownBlock) (.slice Ao56 t403.length co56) t403) ∧ (Kd.R (Kd.int .i64) 3 w' w.heap.size (fun k_ => some k_ ≠ (s_.1 : Value).ownBlock ∧ some k_ ≠ (s_.2.1 : Value).ownBlock ∧ some k_ ≠ (s_.2.2.1 : Value).ownBlock ∧ some k_ ≠ (s_.2.2.2.1 : Value).ownBlock ∧ some k_ ≠ (s_.2.2.2.2.1 : Value).ownBlock ∧ some k_ ≠ (s_.2.2.2.2.2.1 : Value).ownBlock ∧ some k_ ≠ (.slice Ao51 t402.length co51 : Value).ownBlock ∧ some k_ ≠ (.slice Ao56 t403.length co56 : Value).ownBlock ∧ some k_ ≠ (.slice Ao67 t406.length co67 : Value).ownBlock ∧ some k_ ≠ (.slice Ao71 t378.length co71 : Value).ownBlock ∧ some k_ ≠ (.slice Ao78 t381.length co78 : Value).ownBlock) (.slice Ao61 t405.length co61) t405) ∧ (Kd.R (Kd.int .i64) 3 w' w.heap.size (fun k_ => some k_ ≠ (s_.1 : Value).ownBlock ∧ some k_ ≠ (s_.2.1 : Value).ownBlock ∧ some k_ ≠ (s_.2.2.1 : Value).ownBlock ∧ some k_ ≠ (s_.2.2.2.1 : Value).ownBlock ∧ some k_ ≠ (s_.2.2.2.2.1 : Value).ownBlock ∧ some k_ ≠ (s_.2.2.2.2.2.1 : Value).ownBlock ∧ some k_ ≠ (.slice Ao51 t402.length co51 : Value).ownBlock ∧ some k_ ≠ (.slice Ao56 t403.length co56 : Value).ownBlock ∧ some k_ ≠ (.slice Ao61 t405.length co61 : Value).ownBlock ∧ some k_ ≠ (.slice Ao71 t378.length co71 : Value).ownBlock ∧ some k_ ≠ (.slice Ao78 t381.length co78 : Value).ownBlock) (.slice Ao67 t406.length co67) t406) ∧ (Kd.R (Kd.int .i64) 3 w' w.heap.size (fun k_ => some k_ ≠ (s_.1 : Value).ownBlock ∧ some k_ ≠ (s_.2.1 : Value).ownBlock ∧ some k_ ≠ (s_.2.2.1 : Value).ownBlock ∧ some k_ ≠ (s_.2.2.2.1 : Value).ownBlock ∧ some k_ ≠ (s_.2.2.2.2.1 : Value).ownBlock ∧ some k_ ≠ (s_.2.2.2.2.2.1 : Value).ownBlock ∧ some k_ ≠ (.slice Ao51 t402.length co51 : Value).ownBlock ∧ some k_ ≠ (.slice Ao56 t403.length co56 : Value).ownBlock ∧ some k_ ≠ (.slice Ao61 t405.length co61 : Value).ownBlock ∧ some k_ ≠ (.slice Ao67 t406.length co67 : Value).ownBlock ∧ some k_ ≠ (.slice Ao78 t381.length co78 : Value).ownBlock) (.slice Ao71 t378.length co71) t409) ∧ (Kd.R (Kd.int .i64) 3 w' w.heap.size (fun k_ => some k_ ≠ (s_.1 : Value).ownBlock ∧ some k_ ≠ (s_.2.1 : Value).ownBlock ∧ some k_ ≠ (s_.2.2.1 : Value).ownBlock ∧ some k_ ≠ (s_.2.2.2.1 : Value).ownBlock ∧ some k_ ≠ (s_.2.2.2.2.1 : Value).ownBlock ∧ some k_ ≠ (s_.2.2.2.2.2.1 : Value).ownBlock ∧ some k_ ≠ (.slice Ao51 t402.length co51 : Value).ownBlock ∧ some k_ ≠ (.slice Ao56 t403.length co56 : Value).ownBlock ∧ some k_ ≠ (.slice Ao61 t405.length co61 : Value).ownBlock ∧ some k_ ≠ (.slice Ao67 t406.length co67 : Value).ownBlock ∧ some k_ ≠ (.slice Ao71 t378.length co71 : Value).ownBlock) (.slice Ao78 t381.length co78) t410) ∧ (w'.heap[gb340]? = some (.cells #[.slice A0_0 l0_0.length c0_0, .slice A0_1 l0_1.length c0_1] 24 (0, 0))) ∧ (w'.heap[gb341]? = some (.cells #[.slice A1_0 l1_0.length c1_0, .slice A1_1 l1_1.length c1_1] 24 (0, 0))) ∧ (w'.heap[gb363]? = some (.cells #[.slice Ao43 t356.length co43, .slice Ao45 t359.length co45] 26 (0, 0))) ∧ (w'.heap[gb370]? = some (.cells #[.slice Ao51 t402.length co51, .slice Ao56 t403.length co56] 26 (0, 0))) ∧ (w'.heap[gb377]? = some (.cells #[.slice Ao61 t405.length co61, .slice Ao67 t406.length co67] 26 (0, 0))) ∧ (w'.heap[gb385]? = some (.cells #[.slice Ao71 t378.length co71, .slice Ao78 t381.length co78] 26 (0, 0))) ∧ (w'.heap[s_.2.2.2.2.2.2]? = some (.cells #[.slice none 0 0, .slice none 0 0] 26 (0, 0))) ∧ (w.heap.size ≤ s_.2.2.2.2.2.2) ∧ (w.heap.size ≤ s_.2.2.2.2.2.2) ∧ (gb340 ≠ s_.2.2.2.2.2.2) ∧ (s_.2.2.2.2.2.2 ≠ gb340) ∧ (gb341 ≠ s_.2.2.2.2.2.2) ∧ (s_.2.2.2.2.2.2 ≠ gb341) ∧ (gb363 ≠ s_.2.2.2.2.2.2) ∧ (s_.2.2.2.2.2.2 ≠ gb363) ∧ (gb370 ≠ s_.2.2.2.2.2.2) ∧ (s_.2.2.2.2.2.2 ≠ gb370) ∧ (gb377 ≠ s_.2.2.2.2.2.2) ∧ (s_.2.2.2.2.2.2 ≠ gb377) ∧ (gb385 ≠ s_.2.2.2.2.2.2) ∧ (s_.2.2.2.2.2.2 ≠ gb385) ∧ (Below w.heap.size w w')) ?_ ?_
             rotate_left
             ·
              intro hCont
              refine two_ (i := 1) (j := 8) (Ni := some 96) (Nj := some 15) #[true, true, true, false, false, false, false, false, false, false, false] #[true, false, true, false, false, false, false, false, true, false, false] rfl rfl rfl rfl (two_of HT_.out (by kernel_rfl)) (by decide) (by decide) (fun K hK => ?_) (fun K hK => ?_)
              ·
               skip
               refine goes_ Try.func17 (by kernel_rfl) rfl #[.agg #[.slice A0_0 l0_0.length c0_0, .slice A0_1 l0_1.length c0_1]] (by rfl) rfl rfl lU ?_
               with_reducible refine (laws_toArray.calls kj101 _ _ l0_0 _ _ l0_1 t412 t415 _ ?side1 ?side2 ?side3 ?side4 A146.out).mono ?_
               (case side1 => exact cU (Kd.C_below HR0_0.out HB.out))
               (case side2 => exact HC0_0.out)
               (case side3 => exact cU (Kd.C_below HR0_1.out HB.out))
               (case side4 => exact HC0_1.out)
               rintro e w160 ⟨v413, v416, rfl, ho0, ho1, hb⟩
               refine ⟨_, rfl, ?_⟩
               replace HO_364000 := Aside0.mk (Kd.V_mono (Kd.V_told (Kd.V_told (Kd.V_old (VU HO_364000.out) hb) (Kd.R_base ho0)) (Kd.R_base ho1)) (fun _ h_ => h_.1))
               replace HO_364001 := Aside0.mk (Kd.V_mono (Kd.V_told (Kd.V_told (Kd.V_old (VU HO_364001.out) hb) (Kd.R_base ho0)) (Kd.R_base ho1)) (fun _ h_ => h_.1))
               have HO414 := Aside0.mk (Kd.R_lower (Kd.R_new' (Kd.R_new' (Kd.R_new' (Kd.R_new' (Kd.R_new' (Kd.R_new' ho0 (Kd.R_lt (RU HO_371000.out))) (Kd.R_lt (RU HO_371001.out))) (Kd.R_lt (RU HO_378000.out))) (Kd.R_lt (RU HO_378001.out))) (Kd.R_lt (RU HO_386000.out))) (Kd.R_lt (RU HO_386001.out))) (below_size (bS6 HB.out GE340.out GE341.out GE363.out GE370.out GE377.out GE385.out)))
               have HO417 := Aside0.mk (Kd.R_lower (Kd.R_new' (Kd.R_new' (Kd.R_new' (Kd.R_new' (Kd.R_new' (Kd.R_new' ho1 (Kd.R_lt (RU HO_371000.out))) (Kd.R_lt (RU HO_371001.out))) (Kd.R_lt (RU HO_378000.out))) (Kd.R_lt (RU HO_378001.out))) (Kd.R_lt (RU HO_386000.out))) (Kd.R_lt (RU HO_386001.out))) (below_size (bS6 HB.out GE340.out GE341.out GE363.out GE370.out GE377.out GE385.out)))
               replace HO_371000 := Aside0.mk (Kd.R_mono (Kd.R_told (Kd.R_told (Kd.R_old (RU HO_371000.out) hb) (Kd.R_base ho0)) (Kd.R_base ho1)) (fun _ h_ => h_.1))
               replace HO_371001 := Aside0.mk (Kd.R_mono (Kd.R_told (Kd.R_told (Kd.R_old (RU HO_371001.out) hb) (Kd.R_base ho0)) (Kd.R_base ho1)) (fun _ h_ => h_.1))
               replace HO_378000 := Aside0.mk (Kd.R_mono (Kd.R_told (Kd.R_told (Kd.R_old (RU HO_378000.out) hb) (Kd.R_base ho0)) (Kd.R_base ho1)) (fun _ h_ => h_.1))
               replace HO_378001 := Aside0.mk (Kd.R_mono (Kd.R_told (Kd.R_told (Kd.R_old (RU HO_378001.out) hb) (Kd.R_base ho0)) (Kd.R_base ho1)) (fun _ h_ => h_.1))
               replace HO_386000 := Aside0.mk (Kd.R_mono (Kd.R_told (Kd.R_told (Kd.R_old (RU HO_386000.out) hb) (Kd.R_base ho0)) (Kd.R_base ho1)) (fun _ h_ => h_.1))
               replace HO_386001 := Aside0.mk (Kd.R_mono (Kd.R_told (Kd.R_told (Kd.R_old (RU HO_386001.out) hb) (Kd.R_base ho0)) (Kd.R_base ho1)) (fun _ h_ => h_.1))
               replace BK340 := Aside0.mk (kB BK340.out hb)
               replace BK341 := Aside0.mk (kB BK341.out hb)
               replace BK363 := Aside0.mk (kB BK363.out hb)
               replace BK370 := Aside0.mk (kB BK370.out hb)
               replace BK377 := Aside0.mk (kB BK377.out hb)
               replace BK385 := Aside0.mk (kB BK385.out hb)
               replace HB := Aside0.mk (below_step (bS6 HB.out GE340.out GE341.out GE363.out GE370.out GE377.out GE385.out) hb)
               (try clear hb)
               (try clear hb2)
               (try clear hk)
               (try clear hi)
               (try clear ho0)
               (try clear ho1)
               refine hK.out _ _ ⟨(blk_cell BK340.out 0).trans rfl, (blk_cell BK340.out 1).trans rfl, (blk_cell BK341.out 0).trans rfl, (blk_cell BK341.out 1).trans rfl⟩ (fun hHeld => ?_)
               clear hK K
               refine norm_ (a' := ?_) ?_ ?_
               rotate_left
               ·
                show Act.put _ (some 96) _ = _
                simp only [Act.put, List.setIfInBounds_toArray, List.set_cons_zero, List.set_cons_succ, i64_w, i32_w]
                rfl
               refine two_ (i := 3) (j := 8) (Ni := some 98) (Nj := some 15) #[true, true, true, true, false, false, false, false, false, false, false] #[true, true, true, false, false, false, false, false, true, false, false] rfl rfl rfl rfl (two_of HT_.out (by kernel_rfl)) (by decide) (by decide) (fun K hK => ?_) (fun K hK => ?_)
               ·
                skip
                refine goes_ Try.func17 (by kernel_rfl) rfl #[.agg #[.slice A1_0 l1_0.length c1_0, .slice A1_1 l1_1.length c1_1]] (by rfl) rfl rfl lU ?_
                with_reducible refine (laws_toArray.calls kj101 _ _ l1_0 _ _ l1_1 t418 t421 _ ?side1 ?side2 ?side3 ?side4 A147.out).mono ?_
                (case side1 => exact cU (Kd.C_below HR1_0.out HB.out))
                (case side2 => exact HC1_0.out)
                (case side3 => exact cU (Kd.C_below HR1_1.out HB.out))
                (case side4 => exact HC1_1.out)
                rintro e w161 ⟨v419, v422, rfl, ho0, ho1, hb⟩
                refine ⟨_, rfl, ?_⟩
                replace HO_364000 := Aside0.mk (Kd.V_mono (Kd.V_told (Kd.V_told (Kd.V_old (VU HO_364000.out) hb) (Kd.R_base ho0)) (Kd.R_base ho1)) (fun _ h_ => h_.1))
                replace HO_364001 := Aside0.mk (Kd.V_mono (Kd.V_told (Kd.V_told (Kd.V_old (VU HO_364001.out) hb) (Kd.R_base ho0)) (Kd.R_base ho1)) (fun _ h_ => h_.1))
                have HO420 := Aside0.mk (Kd.R_lower (Kd.R_new' (Kd.R_new' (Kd.R_new' (Kd.R_new' (Kd.R_new' (Kd.R_new' (Kd.R_new' (Kd.R_new' ho0 (Kd.R_lt (RU HO_371000.out))) (Kd.R_lt (RU HO_371001.out))) (Kd.R_lt (RU HO_378000.out))) (Kd.R_lt (RU HO_378001.out))) (Kd.R_lt (RU HO_386000.out))) (Kd.R_lt (RU HO_386001.out))) (Kd.R_lt (RU HO414.out))) (Kd.R_lt (RU HO417.out))) (below_size (bS6 HB.out GE340.out GE341.out GE363.out GE370.out GE377.out GE385.out)))
                have HO423 := Aside0.mk (Kd.R_lower (Kd.R_new' (Kd.R_new' (Kd.R_new' (Kd.R_new' (Kd.R_new' (Kd.R_new' (Kd.R_new' (Kd.R_new' ho1 (Kd.R_lt (RU HO_371000.out))) (Kd.R_lt (RU HO_371001.out))) (Kd.R_lt (RU HO_378000.out))) (Kd.R_lt (RU HO_378001.out))) (Kd.R_lt (RU HO_386000.out))) (Kd.R_lt (RU HO_386001.out))) (Kd.R_lt (RU HO414.out))) (Kd.R_lt (RU HO417.out))) (below_size (bS6 HB.out GE340.out GE341.out GE363.out GE370.out GE377.out GE385.out)))
                replace HO_371000 := Aside0.mk (Kd.R_mono (Kd.R_told (Kd.R_told (Kd.R_old (RU HO_371000.out) hb) (Kd.R_base ho0)) (Kd.R_base ho1)) (fun _ h_ => h_.1))
                replace HO_371001 := Aside0.mk (Kd.R_mono (Kd.R_told (Kd.R_told (Kd.R_old (RU HO_371001.out) hb) (Kd.R_base ho0)) (Kd.R_base ho1)) (fun _ h_ => h_.1))
                replace HO_378000 := Aside0.mk (Kd.R_mono (Kd.R_told (Kd.R_told (Kd.R_old (RU HO_378000.out) hb) (Kd.R_base ho0)) (Kd.R_base ho1)) (fun _ h_ => h_.1))
                replace HO_378001 := Aside0.mk (Kd.R_mono (Kd.R_told (Kd.R_told (Kd.R_old (RU HO_378001.out) hb) (Kd.R_base ho0)) (Kd.R_base ho1)) (fun _ h_ => h_.1))
                replace HO_386000 := Aside0.mk (Kd.R_mono (Kd.R_told (Kd.R_told (Kd.R_old (RU HO_386000.out) hb) (Kd.R_base ho0)) (Kd.R_base ho1)) (fun _ h_ => h_.1))
                replace HO_386001 := Aside0.mk (Kd.R_mono (Kd.R_told (Kd.R_told (Kd.R_old (RU HO_386001.out) hb) (Kd.R_base ho0)) (Kd.R_base ho1)) (fun _ h_ => h_.1))
                replace HO414 := Aside0.mk (Kd.R_mono (Kd.R_told (Kd.R_told (Kd.R_old (RU HO414.out) hb) (Kd.R_base ho0)) (Kd.R_base ho1)) (fun _ h_ => h_.1))
                replace HO417 := Aside0.mk (Kd.R_mono (Kd.R_told (Kd.R_told (Kd.R_old (RU HO417.out) hb) (Kd.R_base ho0)) (Kd.R_base ho1)) (fun _ h_ => h_.1))
                replace BK340 := Aside0.mk (kB BK340.out hb)
                replace BK341 := Aside0.mk (kB BK341.out hb)
                replace BK363 := Aside0.mk (kB BK363.out hb)
                replace BK370 := Aside0.mk (kB BK370.out hb)
                replace BK377 := Aside0.mk (kB BK377.out hb)
                replace BK385 := Aside0.mk (kB BK385.out hb)
                replace HB := Aside0.mk (below_step (bS6 HB.out GE340.out GE341.out GE363.out GE370.out GE377.out GE385.out) hb)
                (try clear hb)
                (try clear hb2)
                (try clear hk)
                (try clear hi)
                (try clear ho0)
                (try clear ho1)
                obtain ⟨Ao162, co162, eo162⟩ := Kd.R_slice HO414.out
                (first | subst eo162 | (injection eo162 with f1_ f2_ f3_; have f4_ := f1_.symm; have f5_ := f3_.symm; clear f1_ f2_ f3_; subst f4_; subst f5_))
                obtain ⟨Ao163, co163, eo163⟩ := Kd.R_slice HO417.out
                (first | subst eo163 | (injection eo163 with f1_ f2_ f3_; have f4_ := f1_.symm; have f5_ := f3_.symm; clear f1_ f2_ f3_; subst f4_; subst f5_))
                obtain ⟨Ao164, co164, eo164⟩ := Kd.R_slice HO420.out
                (first | subst eo164 | (injection eo164 with f1_ f2_ f3_; have f4_ := f1_.symm; have f5_ := f3_.symm; clear f1_ f2_ f3_; subst f4_; subst f5_))
                obtain ⟨Ao165, co165, eo165⟩ := Kd.R_slice HO423.out
                (first | subst eo165 | (injection eo165 with f1_ f2_ f3_; have f4_ := f1_.symm; have f5_ := f3_.symm; clear f1_ f2_ f3_; subst f4_; subst f5_))
                refine hK.out _ _ ⟨(blk_cell BK340.out 0).trans rfl, (blk_cell BK340.out 1).trans rfl, (blk_cell BK341.out 0).trans rfl, (blk_cell BK341.out 1).trans rfl⟩ (fun hHeld => ?_)
                clear hK K
                refine norm_ (a' := ?_) ?_ ?_
                rotate_left
                ·
                 show Act.put _ (some 98) _ = _
                 simp only [Act.put, List.setIfInBounds_toArray, List.set_cons_zero, List.set_cons_succ, i64_w, i32_w]
                 rfl
                refine two_ (i := 4) (j := 8) (Ni := some 99) (Nj := some 15) #[true, true, true, true, true, false, false, false, false, false, false] #[true, true, true, true, false, false, false, false, true, false, false] rfl rfl rfl rfl (two_of HT_.out (by kernel_rfl)) (by decide) (by decide) (fun K hK => ?_) (fun K hK => ?_)
                ·
                 skip
                 refine goes_ Try.func51 (by kernel_rfl) rfl #[.agg #[.slice Ao162 t412.length co162, .slice Ao163 t415.length co163], .agg #[.slice Ao164 t418.length co164, .slice Ao165 t421.length co165]] (by rfl) rfl rfl lU ?_
                 with_reducible refine (impl_Join.calls kj101 _ _ t412 _ _ t415 _ _ t418 _ _ t421 t424 t427 t430 _ ?side1 ?side2 ?side3 ?side4 ?side5 ?side6 ?side7 ?side8 A148.out).mono ?_
                 (case side1 => exact cU (Kd.R_reads' HO414.out).2.2)
                 (case side2 => exact (Kd.R_reads' HO414.out).2.1)
                 (case side3 => exact cU (Kd.R_reads' HO417.out).2.2)
                 (case side4 => exact (Kd.R_reads' HO417.out).2.1)
                 (case side5 => exact cU (Kd.R_reads' HO420.out).2.2)
                 (case side6 => exact (Kd.R_reads' HO420.out).2.1)
                 (case side7 => exact cU (Kd.R_reads' HO423.out).2.2)
                 (case side8 => exact (Kd.R_reads' HO423.out).2.1)
                 rintro e w166 ⟨v425, v428, rfl, ho0, ho1, hb⟩
                 refine ⟨_, rfl, ?_⟩
                 replace HO_364000 := Aside0.mk (Kd.V_mono (Kd.V_told (Kd.V_told (Kd.V_old (VU HO_364000.out) hb) (Kd.R_base ho0)) (Kd.R_base ho1)) (fun _ h_ => h_.1))
                 replace HO_364001 := Aside0.mk (Kd.V_mono (Kd.V_told (Kd.V_told (Kd.V_old (VU HO_364001.out) hb) (Kd.R_base ho0)) (Kd.R_base ho1)) (fun _ h_ => h_.1))
                 have HO426 := Aside0.mk (Kd.R_lower (Kd.R_new' (Kd.R_new' (Kd.R_new' (Kd.R_new' (Kd.R_new' (Kd.R_new' (Kd.R_new' (Kd.R_new' (Kd.R_new' (Kd.R_new' ho0 (Kd.R_lt (RU HO_371000.out))) (Kd.R_lt (RU HO_371001.out))) (Kd.R_lt (RU HO_378000.out))) (Kd.R_lt (RU HO_378001.out))) (Kd.R_lt (RU HO_386000.out))) (Kd.R_lt (RU HO_386001.out))) (Kd.R_lt (RU HO414.out))) (Kd.R_lt (RU HO417.out))) (Kd.R_lt (RU HO420.out))) (Kd.R_lt (RU HO423.out))) (below_size (bS6 HB.out GE340.out GE341.out GE363.out GE370.out GE377.out GE385.out)))
                 have HO429 := Aside0.mk (Kd.R_lower (Kd.R_new' (Kd.R_new' (Kd.R_new' (Kd.R_new' (Kd.R_new' (Kd.R_new' (Kd.R_new' (Kd.R_new' (Kd.R_new' (Kd.R_new' ho1 (Kd.R_lt (RU HO_371000.out))) (Kd.R_lt (RU HO_371001.out))) (Kd.R_lt (RU HO_378000.out))) (Kd.R_lt (RU HO_378001.out))) (Kd.R_lt (RU HO_386000.out))) (Kd.R_lt (RU HO_386001.out))) (Kd.R_lt (RU HO414.out))) (Kd.R_lt (RU HO417.out))) (Kd.R_lt (RU HO420.out))) (Kd.R_lt (RU HO423.out))) (below_size (bS6 HB.out GE340.out GE341.out GE363.out GE370.out GE377.out GE385.out)))
                 replace HO_371000 := Aside0.mk (Kd.R_mono (Kd.R_told (Kd.R_told (Kd.R_old (RU HO_371000.out) hb) (Kd.R_base ho0)) (Kd.R_base ho1)) (fun _ h_ => h_.1))
                 replace HO_371001 := Aside0.mk (Kd.R_mono (Kd.R_told (Kd.R_told (Kd.R_old (RU HO_371001.out) hb) (Kd.R_base ho0)) (Kd.R_base ho1)) (fun _ h_ => h_.1))
                 replace HO_378000 := Aside0.mk (Kd.R_mono (Kd.R_told (Kd.R_told (Kd.R_old (RU HO_378000.out) hb) (Kd.R_base ho0)) (Kd.R_base ho1)) (fun _ h_ => h_.1))
                 replace HO_378001 := Aside0.mk (Kd.R_mono (Kd.R_told (Kd.R_told (Kd.R_old (RU HO_378001.out) hb) (Kd.R_base ho0)) (Kd.R_base ho1)) (fun _ h_ => h_.1))
                 replace HO_386000 := Aside0.mk (Kd.R_mono (Kd.R_told (Kd.R_told (Kd.R_old (RU HO_386000.out) hb) (Kd.R_base ho0)) (Kd.R_base ho1)) (fun _ h_ => h_.1))
                 replace HO_386001 := Aside0.mk (Kd.R_mono (Kd.R_told (Kd.R_told (Kd.R_old (RU HO_386001.out) hb) (Kd.R_base ho0)) (Kd.R_base ho1)) (fun _ h_ => h_.1))
                 replace HO414 := Aside0.mk (Kd.R_mono (Kd.R_told (Kd.R_told (Kd.R_old (RU HO414.out) hb) (Kd.R_base ho0)) (Kd.R_base ho1)) (fun _ h_ => h_.1))
                 replace HO417 := Aside0.mk (Kd.R_mono (Kd.R_told (Kd.R_told (Kd.R_old (RU HO417.out) hb) (Kd.R_base ho0)) (Kd.R_base ho1)) (fun _ h_ => h_.1))
                 replace HO420 := Aside0.mk (Kd.R_mono (Kd.R_told (Kd.R_told (Kd.R_old (RU HO420.out) hb) (Kd.R_base ho0)) (Kd.R_base ho1)) (fun _ h_ => h_.1))
                 replace HO423 := Aside0.mk (Kd.R_mono (Kd.R_told (Kd.R_told (Kd.R_old (RU HO423.out) hb) (Kd.R_base ho0)) (Kd.R_base ho1)) (fun _ h_ => h_.1))
                 replace BK340 := Aside0.mk (kB BK340.out hb)
                 replace BK341 := Aside0.mk (kB BK341.out hb)
                 replace BK363 := Aside0.mk (kB BK363.out hb)
                 replace BK370 := Aside0.mk (kB BK370.out hb)
                 replace BK377 := Aside0.mk (kB BK377.out hb)
                 replace BK385 := Aside0.mk (kB BK385.out hb)
                 replace HB := Aside0.mk (below_step (bS6 HB.out GE340.out GE341.out GE363.out GE370.out GE377.out GE385.out) hb)
                 (try clear hb)
                 (try clear hb2)
                 (try clear hk)
                 (try clear hi)
                 (try clear ho0)
                 (try clear ho1)
                 refine hK.out _ _ ⟨(blk_cell BK340.out 0).trans rfl, (blk_cell BK340.out 1).trans rfl, (blk_cell BK341.out 0).trans rfl, (blk_cell BK341.out 1).trans rfl⟩ (fun hHeld => ?_)
                 clear hK K
                 refine norm_ (a' := ?_) ?_ ?_
                 rotate_left
                 ·
                  show Act.put _ (some 99) _ = _
                  simp only [Act.put, List.setIfInBounds_toArray, List.set_cons_zero, List.set_cons_succ, i64_w, i32_w]
                  rfl
                 refine pure_ (i := 5) (N := some 94) (v := ?_) (a' := ?_) #[true, true, true, true, true, true, false, false, false, false, false] rfl rfl (any_of HT_.out (by kernel_rfl)) (fun _ _ _ h => h) (Or.inl ⟨by rfl, ?_⟩) ?_ ?_
                 rotate_left
                 ·
                  intro w'
                  go_simp
                  with_reducible rfl
                 rotate_left
                 ·
                  simp only [Act.put, List.setIfInBounds_toArray, List.set_cons_zero, List.set_cons_succ, i64_w, i32_w]
                  rfl
                 refine pure_ (i := 6) (N := some 100) (v := ?_) (a' := ?_) #[true, true, true, true, true, true, true, false, false, false, false] rfl rfl (any_of HT_.out (by kernel_rfl)) (fun _ _ _ h => h) (Or.inl ⟨by rfl, ?_⟩) ?_ ?_
                 rotate_left
                 ·
                  intro w'
                  go_simp
                  with_reducible rfl
                 rotate_left
                 ·
                  simp only [Act.put, List.setIfInBounds_toArray, List.set_cons_zero, List.set_cons_succ, i64_w, i32_w]
                  rfl
                 refine pure_ (i := 7) (N := some 101) (v := ?_) (a' := ?_) #[true, true, true, true, true, true, true, true, false, false, false] rfl rfl (any_of HT_.out (by kernel_rfl)) (fun _ _ _ h => h) (Or.inl ⟨by rfl, ?_⟩) ?_ ?_
                 rotate_left
                 ·
                  intro w'
                  go_simp
                  with_reducible rfl
                 rotate_left
                 ·
                  simp only [Act.put, List.setIfInBounds_toArray, List.set_cons_zero, List.set_cons_succ, i64_w, i32_w]
                  rfl
                 refine one_ (i := 8) (N := some 15) #[true, true, true, true, true, true, true, true, true, false, false] rfl rfl (one_of HT_.out (by kernel_rfl)) (by decide) (fun K hK => ?_)
                 refine box_step ?hg (N := 15) ?hd (cs := #[.slice none 0 0, .slice none 0 0]) (t := 26) ?hr ?_; (case hd => rfl); (case hg => rfl); (case hr => first | (go_simp; done) | (go_simp; rfl))
                 intro gb431 hg w167 hbox hb
                 replace HO_364000 := Aside0.mk (Kd.V_below (Kd.V_elderB (VU HO_364000.out) gb431 (Nat.le_of_eq hg.symm)) hb)
                 replace HO_364001 := Aside0.mk (Kd.V_below (Kd.V_elderB (VU HO_364001.out) gb431 (Nat.le_of_eq hg.symm)) hb)
                 replace HO_371000 := Aside0.mk (Kd.R_below (RU HO_371000.out) hb)
                 replace HO_371001 := Aside0.mk (Kd.R_below (RU HO_371001.out) hb)
                 replace HO_378000 := Aside0.mk (Kd.R_below (RU HO_378000.out) hb)
                 replace HO_378001 := Aside0.mk (Kd.R_below (RU HO_378001.out) hb)
                 replace HO_386000 := Aside0.mk (Kd.R_below (RU HO_386000.out) hb)
                 replace HO_386001 := Aside0.mk (Kd.R_below (RU HO_386001.out) hb)
                 replace HO414 := Aside0.mk (Kd.R_below (RU HO414.out) hb)
                 replace HO417 := Aside0.mk (Kd.R_below (RU HO417.out) hb)
                 replace HO420 := Aside0.mk (Kd.R_below (RU HO420.out) hb)
                 replace HO423 := Aside0.mk (Kd.R_below (RU HO423.out) hb)
                 replace HO426 := Aside0.mk (Kd.R_below (RU HO426.out) hb)
                 replace HO429 := Aside0.mk (Kd.R_below (RU HO429.out) hb)
                 have BK431 := Aside0.mk (hbox)
                 have GW431 := Aside0.mk ((by rw [hg]; exact (below_size (bS6 HB.out GE340.out GE341.out GE363.out GE370.out GE377.out GE385.out)) : w.heap.size ≤ gb431))
                 have GE431 := Aside0.mk ((by rw [hg]; exact (below_size (bS6 HB.out GE340.out GE341.out GE363.out GE370.out GE377.out GE385.out)) : w.heap.size ≤ gb431))
                 replace HB := Aside0.mk (below_step (bS6 HB.out GE340.out GE341.out GE363.out GE370.out GE377.out GE385.out) hb)
                 have NB340_431 := Aside0.mk (kN BK340.out hg)
                 have NB431_340 := Aside0.mk (kM BK340.out hg)
                 replace BK340 := Aside0.mk (kB BK340.out hb)
                 have NB341_431 := Aside0.mk (kN BK341.out hg)
                 have NB431_341 := Aside0.mk (kM BK341.out hg)
                 replace BK341 := Aside0.mk (kB BK341.out hb)
                 have NB363_431 := Aside0.mk (kN BK363.out hg)
                 have NB431_363 := Aside0.mk (kM BK363.out hg)
                 replace BK363 := Aside0.mk (kB BK363.out hb)
                 have NB370_431 := Aside0.mk (kN BK370.out hg)
                 have NB431_370 := Aside0.mk (kM BK370.out hg)
                 replace BK370 := Aside0.mk (kB BK370.out hb)
                 have NB377_431 := Aside0.mk (kN BK377.out hg)
                 have NB431_377 := Aside0.mk (kM BK377.out hg)
                 replace BK377 := Aside0.mk (kB BK377.out hb)
                 have NB385_431 := Aside0.mk (kN BK385.out hg)
                 have NB431_385 := Aside0.mk (kM BK385.out hg)
                 replace BK385 := Aside0.mk (kB BK385.out hb)
                 clear hb hbox hg
                 refine hK.out _ _ ⟨(blk_cell BK340.out 0).trans rfl, (blk_cell BK340.out 1).trans rfl, (blk_cell BK341.out 0).trans rfl, (blk_cell BK341.out 1).trans rfl⟩ (fun hHeld => ?_)
                 clear hK K
                 refine norm_ (a' := ?_) ?_ ?_
                 rotate_left
                 ·
                  show Act.put _ (some 15) _ = _
                  simp only [Act.put, List.setIfInBounds_toArray, List.set_cons_zero, List.set_cons_succ, i64_w, i32_w]
                  rfl
                 exact norm_ (by simp only [putAll, Act.put, List.setIfInBounds_toArray, List.set_cons_zero, List.set_cons_succ]) (hCont (.slice Ao162 t412.length co162, .slice Ao163 t415.length co163, .slice Ao164 t418.length co164, .slice Ao165 t421.length co165, v425, v428, gb431) _ ⟨hHeld, (by refine RU ?_; exact Kd.R_mono HO414.out (fun _ hk => ⟨hk.1.1.1.1.1.1.1.1.1.1, ⟨hk.1.1.1.2, ⟨hk.1.1.2, ⟨hk.1.2, ⟨hk.2, ⟨hk.1.1.1.1.1.1.1.1.1.2, ⟨hk.1.1.1.1.1.1.1.1.2, ⟨hk.1.1.1.1.1.1.1.2, ⟨hk.1.1.1.1.1.1.2, ⟨hk.1.1.1.1.1.2, hk.1.1.1.1.2⟩⟩⟩⟩⟩⟩⟩⟩⟩⟩)), (by refine RU ?_; exact Kd.R_mono HO417.out (fun _ hk => ⟨hk.1.1.1.1.1.1.1.1.1.1, ⟨hk.1.1.1.2, ⟨hk.1.1.2, ⟨hk.1.2, ⟨hk.2, ⟨hk.1.1.1.1.1.1.1.1.1.2, ⟨hk.1.1.1.1.1.1.1.1.2, ⟨hk.1.1.1.1.1.1.1.2, ⟨hk.1.1.1.1.1.1.2, ⟨hk.1.1.1.1.1.2, hk.1.1.1.1.2⟩⟩⟩⟩⟩⟩⟩⟩⟩⟩)), (by refine RU ?_; exact Kd.R_mono HO420.out (fun _ hk => ⟨hk.1.1.1.2, ⟨hk.1.1.2, ⟨hk.1.1.1.1.1.1.1.1.1.1, ⟨hk.1.2, ⟨hk.2, ⟨hk.1.1.1.1.1.1.1.1.1.2, ⟨hk.1.1.1.1.1.1.1.1.2, ⟨hk.1.1.1.1.1.1.1.2, ⟨hk.1.1.1.1.1.1.2, ⟨hk.1.1.1.1.1.2, hk.1.1.1.1.2⟩⟩⟩⟩⟩⟩⟩⟩⟩⟩)), (by refine RU ?_; exact Kd.R_mono HO423.out (fun _ hk => ⟨hk.1.1.1.2, ⟨hk.1.1.2, ⟨hk.1.1.1.1.1.1.1.1.1.1, ⟨hk.1.2, ⟨hk.2, ⟨hk.1.1.1.1.1.1.1.1.1.2, ⟨hk.1.1.1.1.1.1.1.1.2, ⟨hk.1.1.1.1.1.1.1.2, ⟨hk.1.1.1.1.1.1.2, ⟨hk.1.1.1.1.1.2, hk.1.1.1.1.2⟩⟩⟩⟩⟩⟩⟩⟩⟩⟩)), (by refine RU ?_; exact Kd.R_mono HO426.out (fun _ hk => ⟨hk.1.1.1.2, ⟨hk.1.1.2, ⟨hk.1.2, ⟨hk.2, ⟨hk.1.1.1.1.1.1.1.1.1.1, ⟨hk.1.1.1.1.1.1.1.1.1.2, ⟨hk.1.1.1.1.1.1.1.1.2, ⟨hk.1.1.1.1.1.1.1.2, ⟨hk.1.1.1.1.1.1.2, ⟨hk.1.1.1.1.1.2, hk.1.1.1.1.2⟩⟩⟩⟩⟩⟩⟩⟩⟩⟩)), (by refine RU ?_; exact Kd.R_mono HO429.out (fun _ hk => ⟨hk.1.1.1.2, ⟨hk.1.1.2, ⟨hk.1.2, ⟨hk.2, ⟨hk.1.1.1.1.1.1.1.1.1.1, ⟨hk.1.1.1.1.1.1.1.1.1.2, ⟨hk.1.1.1.1.1.1.1.1.2, ⟨hk.1.1.1.1.1.1.1.2, ⟨hk.1.1.1.1.1.1.2, ⟨hk.1.1.1.1.1.2, hk.1.1.1.1.2⟩⟩⟩⟩⟩⟩⟩⟩⟩⟩)), (by refine VU ?_; exact Kd.V_mono HO_364000.out (fun _ hk => ⟨hk.1.1.1.1.1.1.2, ⟨hk.1.1.1.1.1.2, ⟨hk.1.1.1.1.2, ⟨hk.1.1.1.2, ⟨hk.1.1.2, ⟨hk.1.2, ⟨hk.1.1.1.1.1.1.1.1, ⟨hk.1.1.1.1.1.1.1.2.1, ⟨hk.1.1.1.1.1.1.1.2.2.1, ⟨hk.1.1.1.1.1.1.1.2.2.2.1, ⟨hk.1.1.1.1.1.1.1.2.2.2.2.1, ⟨hk.1.1.1.1.1.1.1.2.2.2.2.2.1, ⟨hk.1.1.1.1.1.1.1.2.2.2.2.2.2.1, ⟨hk.1.1.1.1.1.1.1.2.2.2.2.2.2.2.1, ⟨hk.1.1.1.1.1.1.1.2.2.2.2.2.2.2.2.1, ⟨hk.1.1.1.1.1.1.1.2.2.2.2.2.2.2.2.2.1, ⟨hk.1.1.1.1.1.1.1.2.2.2.2.2.2.2.2.2.2.1, ⟨hk.1.1.1.1.1.1.1.2.2.2.2.2.2.2.2.2.2.2, hk.2⟩⟩⟩⟩⟩⟩⟩⟩⟩⟩⟩⟩⟩⟩⟩⟩⟩⟩)), (by refine VU ?_; exact Kd.V_mono HO_364001.out (fun _ hk => ⟨hk.1.1.1.1.1.1.2, ⟨hk.1.1.1.1.1.2, ⟨hk.1.1.1.1.2, ⟨hk.1.1.1.2, ⟨hk.1.1.2, ⟨hk.1.2, ⟨hk.1.1.1.1.1.1.1.1, ⟨hk.1.1.1.1.1.1.1.2.1, ⟨hk.1.1.1.1.1.1.1.2.2.1, ⟨hk.1.1.1.1.1.1.1.2.2.2.1, ⟨hk.1.1.1.1.1.1.1.2.2.2.2.1, ⟨hk.1.1.1.1.1.1.1.2.2.2.2.2.1, ⟨hk.1.1.1.1.1.1.1.2.2.2.2.2.2.1, ⟨hk.1.1.1.1.1.1.1.2.2.2.2.2.2.2.1, ⟨hk.1.1.1.1.1.1.1.2.2.2.2.2.2.2.2.1, ⟨hk.1.1.1.1.1.1.1.2.2.2.2.2.2.2.2.2.1, ⟨hk.1.1.1.1.1.1.1.2.2.2.2.2.2.2.2.2.2.1, ⟨hk.1.1.1.1.1.1.1.2.2.2.2.2.2.2.2.2.2.2, hk.2⟩⟩⟩⟩⟩⟩⟩⟩⟩⟩⟩⟩⟩⟩⟩⟩⟩⟩)), (by refine RU ?_; exact Kd.R_mono HO_371000.out (fun _ hk => ⟨hk.1.1.1.1.1.2, ⟨hk.1.1.1.1.2, ⟨hk.1.1.1.2, ⟨hk.1.1.2, ⟨hk.1.2, ⟨hk.2, ⟨hk.1.1.1.1.1.1.1, ⟨hk.1.1.1.1.1.1.2.1, ⟨hk.1.1.1.1.1.1.2.2.1, ⟨hk.1.1.1.1.1.1.2.2.2.1, hk.1.1.1.1.1.1.2.2.2.2⟩⟩⟩⟩⟩⟩⟩⟩⟩⟩)), (by refine RU ?_; exact Kd.R_mono HO_371001.out (fun _ hk => ⟨hk.1.1.1.1.1.2, ⟨hk.1.1.1.1.2, ⟨hk.1.1.1.2, ⟨hk.1.1.2, ⟨hk.1.2, ⟨hk.2, ⟨hk.1.1.1.1.1.1.1, ⟨hk.1.1.1.1.1.1.2.1, ⟨hk.1.1.1.1.1.1.2.2.1, ⟨hk.1.1.1.1.1.1.2.2.2.1, hk.1.1.1.1.1.1.2.2.2.2⟩⟩⟩⟩⟩⟩⟩⟩⟩⟩)), (by refine RU ?_; exact Kd.R_mono HO_378000.out (fun _ hk => ⟨hk.1.1.1.1.1.2, ⟨hk.1.1.1.1.2, ⟨hk.1.1.1.2, ⟨hk.1.1.2, ⟨hk.1.2, ⟨hk.2, ⟨hk.1.1.1.1.1.1.1, ⟨hk.1.1.1.1.1.1.2.1, ⟨hk.1.1.1.1.1.1.2.2.1, ⟨hk.1.1.1.1.1.1.2.2.2.1, hk.1.1.1.1.1.1.2.2.2.2⟩⟩⟩⟩⟩⟩⟩⟩⟩⟩)), (by refine RU ?_; exact Kd.R_mono HO_378001.out (fun _ hk => ⟨hk.1.1.1.1.1.2, ⟨hk.1.1.1.1.2, ⟨hk.1.1.1.2, ⟨hk.1.1.2, ⟨hk.1.2, ⟨hk.2, ⟨hk.1.1.1.1.1.1.1, ⟨hk.1.1.1.1.1.1.2.1, ⟨hk.1.1.1.1.1.1.2.2.1, ⟨hk.1.1.1.1.1.1.2.2.2.1, hk.1.1.1.1.1.1.2.2.2.2⟩⟩⟩⟩⟩⟩⟩⟩⟩⟩)), (by refine RU ?_; exact Kd.R_mono HO_386000.out (fun _ hk => ⟨hk.1.1.1.1.1.2, ⟨hk.1.1.1.1.2, ⟨hk.1.1.1.2, ⟨hk.1.1.2, ⟨hk.1.2, ⟨hk.2, ⟨hk.1.1.1.1.1.1.1, ⟨hk.1.1.1.1.1.1.2.1, ⟨hk.1.1.1.1.1.1.2.2.1, ⟨hk.1.1.1.1.1.1.2.2.2.1, hk.1.1.1.1.1.1.2.2.2.2⟩⟩⟩⟩⟩⟩⟩⟩⟩⟩)), (by refine RU ?_; exact Kd.R_mono HO_386001.out (fun _ hk => ⟨hk.1.1.1.1.1.2, ⟨hk.1.1.1.1.2, ⟨hk.1.1.1.2, ⟨hk.1.1.2, ⟨hk.1.2, ⟨hk.2, ⟨hk.1.1.1.1.1.1.1, ⟨hk.1.1.1.1.1.1.2.1, ⟨hk.1.1.1.1.1.1.2.2.1, ⟨hk.1.1.1.1.1.1.2.2.2.1, hk.1.1.1.1.1.1.2.2.2.2⟩⟩⟩⟩⟩⟩⟩⟩⟩⟩)), (kU BK340.out), (kU BK341.out), (kU BK363.out), (kU BK370.out), (kU BK377.out), (kU BK385.out), (kU BK431.out), GW431.out, GE431.out, NB340_431.out, NB431_340.out, NB341_431.out, NB431_341.out, NB363_431.out, NB431_363.out, NB370_431.out, NB431_370.out, NB377_431.out, NB431_377.out, NB385_431.out, NB431_385.out, (bS7 HB.out GE340.out GE341.out GE363.out GE370.out GE377.out GE385.out GE431.out)⟩)
                ·
                 skip
                 refine box_step ?hg (N := 15) ?hd (cs := #[.slice none 0 0, .slice none 0 0]) (t := 26) ?hr ?_; (case hd => rfl); (case hg => rfl); (case hr => first | (go_simp; done) | (go_simp; rfl))
                 intro gb431 hg w162 hbox hb
                 replace HO_364000 := Aside0.mk (Kd.V_below (Kd.V_elderB (VU HO_364000.out) gb431 (Nat.le_of_eq hg.symm)) hb)
                 replace HO_364001 := Aside0.mk (Kd.V_below (Kd.V_elderB (VU HO_364001.out) gb431 (Nat.le_of_eq hg.symm)) hb)
                 replace HO_371000 := Aside0.mk (Kd.R_below (RU HO_371000.out) hb)
                 replace HO_371001 := Aside0.mk (Kd.R_below (RU HO_371001.out) hb)
                 replace HO_378000 := Aside0.mk (Kd.R_below (RU HO_378000.out) hb)
                 replace HO_378001 := Aside0.mk (Kd.R_below (RU HO_378001.out) hb)
                 replace HO_386000 := Aside0.mk (Kd.R_below (RU HO_386000.out) hb)
                 replace HO_386001 := Aside0.mk (Kd.R_below (RU HO_386001.out) hb)
                 replace HO414 := Aside0.mk (Kd.R_below (RU HO414.out) hb)
                 replace HO417 := Aside0.mk (Kd.R_below (RU HO417.out) hb)
                 replace HO420 := Aside0.mk (Kd.R_below (RU HO420.out) hb)
                 replace HO423 := Aside0.mk (Kd.R_below (RU HO423.out) hb)
                 have BK431 := Aside0.mk (hbox)
                 have GW431 := Aside0.mk ((by rw [hg]; exact (below_size (bS6 HB.out GE340.out GE341.out GE363.out GE370.out GE377.out GE385.out)) : w.heap.size ≤ gb431))
                 have GE431 := Aside0.mk ((by rw [hg]; exact (below_size (bS6 HB.out GE340.out GE341.out GE363.out GE370.out GE377.out GE385.out)) : w.heap.size ≤ gb431))
                 replace HB := Aside0.mk (below_step (bS6 HB.out GE340.out GE341.out GE363.out GE370.out GE377.out GE385.out) hb)
                 have NB340_431 := Aside0.mk (kN BK340.out hg)
                 have NB431_340 := Aside0.mk (kM BK340.out hg)
                 replace BK340 := Aside0.mk (kB BK340.out hb)
                 have NB341_431 := Aside0.mk (kN BK341.out hg)
                 have NB431_341 := Aside0.mk (kM BK341.out hg)
                 replace BK341 := Aside0.mk (kB BK341.out hb)
                 have NB363_431 := Aside0.mk (kN BK363.out hg)
                 have NB431_363 := Aside0.mk (kM BK363.out hg)
                 replace BK363 := Aside0.mk (kB BK363.out hb)
                 have NB370_431 := Aside0.mk (kN BK370.out hg)
                 have NB431_370 := Aside0.mk (kM BK370.out hg)
                 replace BK370 := Aside0.mk (kB BK370.out hb)
                 have NB377_431 := Aside0.mk (kN BK377.out hg)
                 have NB431_377 := Aside0.mk (kM BK377.out hg)
                 replace BK377 := Aside0.mk (kB BK377.out hb)
                 have NB385_431 := Aside0.mk (kN BK385.out hg)
                 have NB431_385 := Aside0.mk (kM BK385.out hg)
                 replace BK385 := Aside0.mk (kB BK385.out hb)
                 clear hb hbox hg
                 obtain ⟨Ao163, co163, eo163⟩ := Kd.R_slice HO414.out
                 (first | subst eo163 | (injection eo163 with f1_ f2_ f3_; have f4_ := f1_.symm; have f5_ := f3_.symm; clear f1_ f2_ f3_; subst f4_; subst f5_))
                 obtain ⟨Ao164, co164, eo164⟩ := Kd.R_slice HO417.out
                 (first | subst eo164 | (injection eo164 with f1_ f2_ f3_; have f4_ := f1_.symm; have f5_ := f3_.symm; clear f1_ f2_ f3_; subst f4_; subst f5_))
                 obtain ⟨Ao165, co165, eo165⟩ := Kd.R_slice HO420.out
                 (first | subst eo165 | (injection eo165 with f1_ f2_ f3_; have f4_ := f1_.symm; have f5_ := f3_.symm; clear f1_ f2_ f3_; subst f4_; subst f5_))
                 obtain ⟨Ao166, co166, eo166⟩ := Kd.R_slice HO423.out
                 (first | subst eo166 | (injection eo166 with f1_ f2_ f3_; have f4_ := f1_.symm; have f5_ := f3_.symm; clear f1_ f2_ f3_; subst f4_; subst f5_))
                 refine hK.out _ _ ⟨(blk_cell BK340.out 0).trans rfl, (blk_cell BK340.out 1).trans rfl, (blk_cell BK341.out 0).trans rfl, (blk_cell BK341.out 1).trans rfl⟩ (fun hHeld => ?_)
                 clear hK K
                 refine norm_ (a' := ?_) ?_ ?_
                 rotate_left
                 ·
                  show Act.put _ (some 15) _ = _
                  simp only [Act.put, List.setIfInBounds_toArray, List.set_cons_zero, List.set_cons_succ, i64_w, i32_w]
                  rfl
                 refine one_ (i := 4) (N := some 99) #[true, true, true, true, true, false, false, false, true, false, false] rfl rfl (one_of HT_.out (by kernel_rfl)) (by decide) (fun K hK => ?_)
                 refine goes_ Try.func51 (by kernel_rfl) rfl #[.agg #[.slice Ao163 t412.length co163, .slice Ao164 t415.length co164], .agg #[.slice Ao165 t418.length co165, .slice Ao166 t421.length co166]] (by rfl) rfl rfl lU ?_
                 with_reducible refine (impl_Join.calls kj101 _ _ t412 _ _ t415 _ _ t418 _ _ t421 t424 t427 t430 _ ?side1 ?side2 ?side3 ?side4 ?side5 ?side6 ?side7 ?side8 A148.out).mono ?_
                 (case side1 => exact cU (Kd.R_reads' HO414.out).2.2)
                 (case side2 => exact (Kd.R_reads' HO414.out).2.1)
                 (case side3 => exact cU (Kd.R_reads' HO417.out).2.2)
                 (case side4 => exact (Kd.R_reads' HO417.out).2.1)
                 (case side5 => exact cU (Kd.R_reads' HO420.out).2.2)
                 (case side6 => exact (Kd.R_reads' HO420.out).2.1)
                 (case side7 => exact cU (Kd.R_reads' HO423.out).2.2)
                 (case side8 => exact (Kd.R_reads' HO423.out).2.1)
                 rintro e w167 ⟨v425, v428, rfl, ho0, ho1, hb⟩
                 refine ⟨_, rfl, ?_⟩
                 replace HO_364000 := Aside0.mk (Kd.V_mono (Kd.V_told (Kd.V_told (Kd.V_old (VU HO_364000.out) hb) (Kd.R_base ho0)) (Kd.R_base ho1)) (fun _ h_ => h_.1))
                 replace HO_364001 := Aside0.mk (Kd.V_mono (Kd.V_told (Kd.V_told (Kd.V_old (VU HO_364001.out) hb) (Kd.R_base ho0)) (Kd.R_base ho1)) (fun _ h_ => h_.1))
                 have HO426 := Aside0.mk (Kd.R_lower (Kd.R_new' (Kd.R_new' (Kd.R_new' (Kd.R_new' (Kd.R_new' (Kd.R_new' (Kd.R_new' (Kd.R_new' (Kd.R_new' (Kd.R_new' ho0 (Kd.R_lt (RU HO_371000.out))) (Kd.R_lt (RU HO_371001.out))) (Kd.R_lt (RU HO_378000.out))) (Kd.R_lt (RU HO_378001.out))) (Kd.R_lt (RU HO_386000.out))) (Kd.R_lt (RU HO_386001.out))) (Kd.R_lt (RU HO414.out))) (Kd.R_lt (RU HO417.out))) (Kd.R_lt (RU HO420.out))) (Kd.R_lt (RU HO423.out))) (below_size (bS7 HB.out GE340.out GE341.out GE363.out GE370.out GE377.out GE385.out GE431.out)))
                 have HO429 := Aside0.mk (Kd.R_lower (Kd.R_new' (Kd.R_new' (Kd.R_new' (Kd.R_new' (Kd.R_new' (Kd.R_new' (Kd.R_new' (Kd.R_new' (Kd.R_new' (Kd.R_new' ho1 (Kd.R_lt (RU HO_371000.out))) (Kd.R_lt (RU HO_371001.out))) (Kd.R_lt (RU HO_378000.out))) (Kd.R_lt (RU HO_378001.out))) (Kd.R_lt (RU HO_386000.out))) (Kd.R_lt (RU HO_386001.out))) (Kd.R_lt (RU HO414.out))) (Kd.R_lt (RU HO417.out))) (Kd.R_lt (RU HO420.out))) (Kd.R_lt (RU HO423.out))) (below_size (bS7 HB.out GE340.out GE341.out GE363.out GE370.out GE377.out GE385.out GE431.out)))
                 replace HO_371000 := Aside0.mk (Kd.R_mono (Kd.R_told (Kd.R_told (Kd.R_old (RU HO_371000.out) hb) (Kd.R_base ho0)) (Kd.R_base ho1)) (fun _ h_ => h_.1))
                 replace HO_371001 := Aside0.mk (Kd.R_mono (Kd.R_told (Kd.R_told (Kd.R_old (RU HO_371001.out) hb) (Kd.R_base ho0)) (Kd.R_base ho1)) (fun _ h_ => h_.1))
                 replace HO_378000 := Aside0.mk (Kd.R_mono (Kd.R_told (Kd.R_told (Kd.R_old (RU HO_378000.out) hb) (Kd.R_base ho0)) (Kd.R_base ho1)) (fun _ h_ => h_.1))
                 replace HO_378001 := Aside0.mk (Kd.R_mono (Kd.R_told (Kd.R_told (Kd.R_old (RU HO_378001.out) hb) (Kd.R_base ho0)) (Kd.R_base ho1)) (fun _ h_ => h_.1))
                 replace HO_386000 := Aside0.mk (Kd.R_mono (Kd.R_told (Kd.R_told (Kd.R_old (RU HO_386000.out) hb) (Kd.R_base ho0)) (Kd.R_base ho1)) (fun _ h_ => h_.1))
                 replace HO_386001 := Aside0.mk (Kd.R_mono (Kd.R_told (Kd.R_told (Kd.R_old (RU HO_386001.out) hb) (Kd.R_base ho0)) (Kd.R_base ho1)) (fun _ h_ => h_.1))
                 replace HO414 := Aside0.mk (Kd.R_mono (Kd.R_told (Kd.R_told (Kd.R_old (RU HO414.out) hb) (Kd.R_base ho0)) (Kd.R_base ho1)) (fun _ h_ => h_.1))
                 replace HO417 := Aside0.mk (Kd.R_mono (Kd.R_told (Kd.R_told (Kd.R_old (RU HO417.out) hb) (Kd.R_base ho0)) (Kd.R_base ho1)) (fun _ h_ => h_.1))
                 replace HO420 := Aside0.mk (Kd.R_mono (Kd.R_told (Kd.R_told (Kd.R_old (RU HO420.out) hb) (Kd.R_base ho0)) (Kd.R_base ho1)) (fun _ h_ => h_.1))
                 replace HO423 := Aside0.mk (Kd.R_mono (Kd.R_told (Kd.R_told (Kd.R_old (RU HO423.out) hb) (Kd.R_base ho0)) (Kd.R_base ho1)) (fun _ h_ => h_.1))
                 replace BK340 := Aside0.mk (kB BK340.out hb)
                 replace BK341 := Aside0.mk (kB BK341.out hb)
                 replace BK363 := Aside0.mk (kB BK363.out hb)
                 replace BK370 := Aside0.mk (kB BK370.out hb)
                 replace BK377 := Aside0.mk (kB BK377.out hb)
                 replace BK385 := Aside0.mk (kB BK385.out hb)
                 replace BK431 := Aside0.mk (kB BK431.out hb)
                 replace HB := Aside0.mk (below_step (bS7 HB.out GE340.out GE341.out GE363.out GE370.out GE377.out GE385.out GE431.out) hb)
                 (try clear hb)
                 (try clear hb2)
                 (try clear hk)
                 (try clear hi)
                 (try clear ho0)
                 (try clear ho1)
                 refine hK.out _ _ ⟨(blk_cell BK340.out 0).trans rfl, (blk_cell BK340.out 1).trans rfl, (blk_cell BK341.out 0).trans rfl, (blk_cell BK341.out 1).trans rfl⟩ (fun hHeld => ?_)
                 clear hK K
                 refine norm_ (a' := ?_) ?_ ?_
                 rotate_left
                 ·
                  show Act.put _ (some 99) _ = _
                  simp only [Act.put, List.setIfInBounds_toArray, List.set_cons_zero, List.set_cons_succ, i64_w, i32_w]
                  rfl
                 refine pure_ (i := 5) (N := some 94) (v := ?_) (a' := ?_) #[true, true, true, true, true, true, false, false, true, false, false] rfl rfl (any_of HT_.out (by kernel_rfl)) (fun _ _ _ h => h) (Or.inl ⟨by rfl, ?_⟩) ?_ ?_
                 rotate_left
                 ·
                  intro w'
                  go_simp
                  with_reducible rfl
                 rotate_left
                 ·
                  simp only [Act.put, List.setIfInBounds_toArray, List.set_cons_zero, List.set_cons_succ, i64_w, i32_w]
                  rfl
                 refine pure_ (i := 6) (N := some 100) (v := ?_) (a' := ?_) #[true, true, true, true, true, true, true, false, true, false, false] rfl rfl (any_of HT_.out (by kernel_rfl)) (fun _ _ _ h => h) (Or.inl ⟨by rfl, ?_⟩) ?_ ?_
                 rotate_left
                 ·
                  intro w'
                  go_simp
                  with_reducible rfl
                 rotate_left
                 ·
                  simp only [Act.put, List.setIfInBounds_toArray, List.set_cons_zero, List.set_cons_succ, i64_w, i32_w]
                  rfl
                 refine pure_ (i := 7) (N := some 101) (v := ?_) (a' := ?_) #[true, true, true, true, true, true, true, true, true, false, false] rfl rfl (any_of HT_.out (by kernel_rfl)) (fun _ _ _ h => h) (Or.inl ⟨by rfl, ?_⟩) ?_ ?_
                 rotate_left
                 ·
                  intro w'
                  go_simp
                  with_reducible rfl
                 rotate_left
                 ·
                  simp only [Act.put, List.setIfInBounds_toArray, List.set_cons_zero, List.set_cons_succ, i64_w, i32_w]
                  rfl
                 exact norm_ (by simp only [putAll, Act.put, List.setIfInBounds_toArray, List.set_cons_zero, List.set_cons_succ]) (hCont (.slice Ao163 t412.length co163, .slice Ao164 t415.length co164, .slice Ao165 t418.length co165, .slice Ao166 t421.length co166, v425, v428, gb431) _ ⟨hHeld, (by refine RU ?_; exact Kd.R_mono HO414.out (fun _ hk => ⟨hk.1.1.1.1.1.1.1.1.1.1, ⟨hk.1.1.1.2, ⟨hk.1.1.2, ⟨hk.1.2, ⟨hk.2, ⟨hk.1.1.1.1.1.1.1.1.1.2, ⟨hk.1.1.1.1.1.1.1.1.2, ⟨hk.1.1.1.1.1.1.1.2, ⟨hk.1.1.1.1.1.1.2, ⟨hk.1.1.1.1.1.2, hk.1.1.1.1.2⟩⟩⟩⟩⟩⟩⟩⟩⟩⟩)), (by refine RU ?_; exact Kd.R_mono HO417.out (fun _ hk => ⟨hk.1.1.1.1.1.1.1.1.1.1, ⟨hk.1.1.1.2, ⟨hk.1.1.2, ⟨hk.1.2, ⟨hk.2, ⟨hk.1.1.1.1.1.1.1.1.1.2, ⟨hk.1.1.1.1.1.1.1.1.2, ⟨hk.1.1.1.1.1.1.1.2, ⟨hk.1.1.1.1.1.1.2, ⟨hk.1.1.1.1.1.2, hk.1.1.1.1.2⟩⟩⟩⟩⟩⟩⟩⟩⟩⟩)), (by refine RU ?_; exact Kd.R_mono HO420.out (fun _ hk => ⟨hk.1.1.1.2, ⟨hk.1.1.2, ⟨hk.1.1.1.1.1.1.1.1.1.1, ⟨hk.1.2, ⟨hk.2, ⟨hk.1.1.1.1.1.1.1.1.1.2, ⟨hk.1.1.1.1.1.1.1.1.2, ⟨hk.1.1.1.1.1.1.1.2, ⟨hk.1.1.1.1.1.1.2, ⟨hk.1.1.1.1.1.2, hk.1.1.1.1.2⟩⟩⟩⟩⟩⟩⟩⟩⟩⟩)), (by refine RU ?_; exact Kd.R_mono HO423.out (fun _ hk => ⟨hk.1.1.1.2, ⟨hk.1.1.2, ⟨hk.1.1.1.1.1.1.1.1.1.1, ⟨hk.1.2, ⟨hk.2, ⟨hk.1.1.1.1.1.1.1.1.1.2, ⟨hk.1.1.1.1.1.1.1.1.2, ⟨hk.1.1.1.1.1.1.1.2, ⟨hk.1.1.1.1.1.1.2, ⟨hk.1.1.1.1.1.2, hk.1.1.1.1.2⟩⟩⟩⟩⟩⟩⟩⟩⟩⟩)), (by refine RU ?_; exact Kd.R_mono HO426.out (fun _ hk => ⟨hk.1.1.1.2, ⟨hk.1.1.2, ⟨hk.1.2, ⟨hk.2, ⟨hk.1.1.1.1.1.1.1.1.1.1, ⟨hk.1.1.1.1.1.1.1.1.1.2, ⟨hk.1.1.1.1.1.1.1.1.2, ⟨hk.1.1.1.1.1.1.1.2, ⟨hk.1.1.1.1.1.1.2, ⟨hk.1.1.1.1.1.2, hk.1.1.1.1.2⟩⟩⟩⟩⟩⟩⟩⟩⟩⟩)), (by refine RU ?_; exact Kd.R_mono HO429.out (fun _ hk => ⟨hk.1.1.1.2, ⟨hk.1.1.2, ⟨hk.1.2, ⟨hk.2, ⟨hk.1.1.1.1.1.1.1.1.1.1, ⟨hk.1.1.1.1.1.1.1.1.1.2, ⟨hk.1.1.1.1.1.1.1.1.2, ⟨hk.1.1.1.1.1.1.1.2, ⟨hk.1.1.1.1.1.1.2, ⟨hk.1.1.1.1.1.2, hk.1.1.1.1.2⟩⟩⟩⟩⟩⟩⟩⟩⟩⟩)), (by refine VU ?_; exact Kd.V_mono HO_364000.out (fun _ hk => ⟨hk.1.1.1.1.1.1.2, ⟨hk.1.1.1.1.1.2, ⟨hk.1.1.1.1.2, ⟨hk.1.1.1.2, ⟨hk.1.2, ⟨hk.2, ⟨hk.1.1.1.1.1.1.1.1, ⟨hk.1.1.1.1.1.1.1.2.1, ⟨hk.1.1.1.1.1.1.1.2.2.1, ⟨hk.1.1.1.1.1.1.1.2.2.2.1, ⟨hk.1.1.1.1.1.1.1.2.2.2.2.1, ⟨hk.1.1.1.1.1.1.1.2.2.2.2.2.1, ⟨hk.1.1.1.1.1.1.1.2.2.2.2.2.2.1, ⟨hk.1.1.1.1.1.1.1.2.2.2.2.2.2.2.1, ⟨hk.1.1.1.1.1.1.1.2.2.2.2.2.2.2.2.1, ⟨hk.1.1.1.1.1.1.1.2.2.2.2.2.2.2.2.2.1, ⟨hk.1.1.1.1.1.1.1.2.2.2.2.2.2.2.2.2.2.1, ⟨hk.1.1.1.1.1.1.1.2.2.2.2.2.2.2.2.2.2.2, hk.1.1.2⟩⟩⟩⟩⟩⟩⟩⟩⟩⟩⟩⟩⟩⟩⟩⟩⟩⟩)), (by refine VU ?_; exact Kd.V_mono HO_364001.out (fun _ hk => ⟨hk.1.1.1.1.1.1.2, ⟨hk.1.1.1.1.1.2, ⟨hk.1.1.1.1.2, ⟨hk.1.1.1.2, ⟨hk.1.2, ⟨hk.2, ⟨hk.1.1.1.1.1.1.1.1, ⟨hk.1.1.1.1.1.1.1.2.1, ⟨hk.1.1.1.1.1.1.1.2.2.1, ⟨hk.1.1.1.1.1.1.1.2.2.2.1, ⟨hk.1.1.1.1.1.1.1.2.2.2.2.1, ⟨hk.1.1.1.1.1.1.1.2.2.2.2.2.1, ⟨hk.1.1.1.1.1.1.1.2.2.2.2.2.2.1, ⟨hk.1.1.1.1.1.1.1.2.2.2.2.2.2.2.1, ⟨hk.1.1.1.1.1.1.1.2.2.2.2.2.2.2.2.1, ⟨hk.1.1.1.1.1.1.1.2.2.2.2.2.2.2.2.2.1, ⟨hk.1.1.1.1.1.1.1.2.2.2.2.2.2.2.2.2.2.1, ⟨hk.1.1.1.1.1.1.1.2.2.2.2.2.2.2.2.2.2.2, hk.1.1.2⟩⟩⟩⟩⟩⟩⟩⟩⟩⟩⟩⟩⟩⟩⟩⟩⟩⟩)), (by refine RU ?_; exact Kd.R_mono HO_371000.out (fun _ hk => ⟨hk.1.1.1.1.1.2, ⟨hk.1.1.1.1.2, ⟨hk.1.1.1.2, ⟨hk.1.1.2, ⟨hk.1.2, ⟨hk.2, ⟨hk.1.1.1.1.1.1.1, ⟨hk.1.1.1.1.1.1.2.1, ⟨hk.1.1.1.1.1.1.2.2.1, ⟨hk.1.1.1.1.1.1.2.2.2.1, hk.1.1.1.1.1.1.2.2.2.2⟩⟩⟩⟩⟩⟩⟩⟩⟩⟩)), (by refine RU ?_; exact Kd.R_mono HO_371001.out (fun _ hk => ⟨hk.1.1.1.1.1.2, ⟨hk.1.1.1.1.2, ⟨hk.1.1.1.2, ⟨hk.1.1.2, ⟨hk.1.2, ⟨hk.2, ⟨hk.1.1.1.1.1.1.1, ⟨hk.1.1.1.1.1.1.2.1, ⟨hk.1.1.1.1.1.1.2.2.1, ⟨hk.1.1.1.1.1.1.2.2.2.1, hk.1.1.1.1.1.1.2.2.2.2⟩⟩⟩⟩⟩⟩⟩⟩⟩⟩)), (by refine RU ?_; exact Kd.R_mono HO_378000.out (fun _ hk => ⟨hk.1.1.1.1.1.2, ⟨hk.1.1.1.1.2, ⟨hk.1.1.1.2, ⟨hk.1.1.2, ⟨hk.1.2, ⟨hk.2, ⟨hk.1.1.1.1.1.1.1, ⟨hk.1.1.1.1.1.1.2.1, ⟨hk.1.1.1.1.1.1.2.2.1, ⟨hk.1.1.1.1.1.1.2.2.2.1, hk.1.1.1.1.1.1.2.2.2.2⟩⟩⟩⟩⟩⟩⟩⟩⟩⟩)), (by refine RU ?_; exact Kd.R_mono HO_378001.out (fun _ hk => ⟨hk.1.1.1.1.1.2, ⟨hk.1.1.1.1.2, ⟨hk.1.1.1.2, ⟨hk.1.1.2, ⟨hk.1.2, ⟨hk.2, ⟨hk.1.1.1.1.1.1.1, ⟨hk.1.1.1.1.1.1.2.1, ⟨hk.1.1.1.1.1.1.2.2.1, ⟨hk.1.1.1.1.1.1.2.2.2.1, hk.1.1.1.1.1.1.2.2.2.2⟩⟩⟩⟩⟩⟩⟩⟩⟩⟩)), (by refine RU ?_; exact Kd.R_mono HO_386000.out (fun _ hk => ⟨hk.1.1.1.1.1.2, ⟨hk.1.1.1.1.2, ⟨hk.1.1.1.2, ⟨hk.1.1.2, ⟨hk.1.2, ⟨hk.2, ⟨hk.1.1.1.1.1.1.1, ⟨hk.1.1.1.1.1.1.2.1, ⟨hk.1.1.1.1.1.1.2.2.1, ⟨hk.1.1.1.1.1.1.2.2.2.1, hk.1.1.1.1.1.1.2.2.2.2⟩⟩⟩⟩⟩⟩⟩⟩⟩⟩)), (by refine RU ?_; exact Kd.R_mono HO_386001.out (fun _ hk => ⟨hk.1.1.1.1.1.2, ⟨hk.1.1.1.1.2, ⟨hk.1.1.1.2, ⟨hk.1.1.2, ⟨hk.1.2, ⟨hk.2, ⟨hk.1.1.1.1.1.1.1, ⟨hk.1.1.1.1.1.1.2.1, ⟨hk.1.1.1.1.1.1.2.2.1, ⟨hk.1.1.1.1.1.1.2.2.2.1, hk.1.1.1.1.1.1.2.2.2.2⟩⟩⟩⟩⟩⟩⟩⟩⟩⟩)), (kU BK340.out), (kU BK341.out), (kU BK363.out), (kU BK370.out), (kU BK377.out), (kU BK385.out), (kU BK431.out), GW431.out, GE431.out, NB340_431.out, NB431_340.out, NB341_431.out, NB431_341.out, NB363_431.out, NB431_363.out, NB370_431.out, NB431_370.out, NB377_431.out, NB431_377.out, NB385_431.out, NB431_385.out, (bS7 HB.out GE340.out GE341.out GE363.out GE370.out GE377.out GE385.out GE431.out)⟩)
               ·
                skip
                refine box_step ?hg (N := 15) ?hd (cs := #[.slice none 0 0, .slice none 0 0]) (t := 26) ?hr ?_; (case hd => rfl); (case hg => rfl); (case hr => first | (go_simp; done) | (go_simp; rfl))
                intro gb431 hg w161 hbox hb
                replace HO_364000 := Aside0.mk (Kd.V_below (Kd.V_elderB (VU HO_364000.out) gb431 (Nat.le_of_eq hg.symm)) hb)
                replace HO_364001 := Aside0.mk (Kd.V_below (Kd.V_elderB (VU HO_364001.out) gb431 (Nat.le_of_eq hg.symm)) hb)
                replace HO_371000 := Aside0.mk (Kd.R_below (RU HO_371000.out) hb)
                replace HO_371001 := Aside0.mk (Kd.R_below (RU HO_371001.out) hb)
                replace HO_378000 := Aside0.mk (Kd.R_below (RU HO_378000.out) hb)
                replace HO_378001 := Aside0.mk (Kd.R_below (RU HO_378001.out) hb)
                replace HO_386000 := Aside0.mk (Kd.R_below (RU HO_386000.out) hb)
                replace HO_386001 := Aside0.mk (Kd.R_below (RU HO_386001.out) hb)
                replace HO414 := Aside0.mk (Kd.R_below (RU HO414.out) hb)
                replace HO417 := Aside0.mk (Kd.R_below (RU HO417.out) hb)
                have BK431 := Aside0.mk (hbox)
                have GW431 := Aside0.mk ((by rw [hg]; exact (below_size (bS6 HB.out GE340.out GE341.out GE363.out GE370.out GE377.out GE385.out)) : w.heap.size ≤ gb431))
                have GE431 := Aside0.mk ((by rw [hg]; exact (below_size (bS6 HB.out GE340.out GE341.out GE363.out GE370.out GE377.out GE385.out)) : w.heap.size ≤ gb431))
                replace HB := Aside0.mk (below_step (bS6 HB.out GE340.out GE341.out GE363.out GE370.out GE377.out GE385.out) hb)
                have NB340_431 := Aside0.mk (kN BK340.out hg)
                have NB431_340 := Aside0.mk (kM BK340.out hg)
                replace BK340 := Aside0.mk (kB BK340.out hb)
                have NB341_431 := Aside0.mk (kN BK341.out hg)
                have NB431_341 := Aside0.mk (kM BK341.out hg)
                replace BK341 := Aside0.mk (kB BK341.out hb)
                have NB363_431 := Aside0.mk (kN BK363.out hg)
                have NB431_363 := Aside0.mk (kM BK363.out hg)
                replace BK363 := Aside0.mk (kB BK363.out hb)
                have NB370_431 := Aside0.mk (kN BK370.out hg)
                have NB431_370 := Aside0.mk (kM BK370.out hg)
                replace BK370 := Aside0.mk (kB BK370.out hb)
                have NB377_431 := Aside0.mk (kN BK377.out hg)
                have NB431_377 := Aside0.mk (kM BK377.out hg)
                replace BK377 := Aside0.mk (kB BK377.out hb)
                have NB385_431 := Aside0.mk (kN BK385.out hg)
                have NB431_385 := Aside0.mk (kM BK385.out hg)
                replace BK385 := Aside0.mk (kB BK385.out hb)
                clear hb hbox hg
                refine hK.out _ _ ⟨(blk_cell BK340.out 0).trans rfl, (blk_cell BK340.out 1).trans rfl, (blk_cell BK341.out 0).trans rfl, (blk_cell BK341.out 1).trans rfl⟩ (fun hHeld => ?_)
                clear hK K
                refine norm_ (a' := ?_) ?_ ?_
                rotate_left
                ·
                 show Act.put _ (some 15) _ = _
                 simp only [Act.put, List.setIfInBounds_toArray, List.set_cons_zero, List.set_cons_succ, i64_w, i32_w]
                 rfl
                refine one_ (i := 3) (N := some 98) #[true, true, true, true, false, false, false, false, true, false, false] rfl rfl (one_of HT_.out (by kernel_rfl)) (by decide) (fun K hK => ?_)
                refine goes_ Try.func17 (by kernel_rfl) rfl #[.agg #[.slice A1_0 l1_0.length c1_0, .slice A1_1 l1_1.length c1_1]] (by rfl) rfl rfl lU ?_
                with_reducible refine (laws_toArray.calls kj101 _ _ l1_0 _ _ l1_1 t418 t421 _ ?side1 ?side2 ?side3 ?side4 A147.out).mono ?_
                (case side1 => exact cU (Kd.C_below HR1_0.out HB.out))
                (case side2 => exact HC1_0.out)
                (case side3 => exact cU (Kd.C_below HR1_1.out HB.out))
                (case side4 => exact HC1_1.out)
                rintro e w162 ⟨v419, v422, rfl, ho0, ho1, hb⟩
                refine ⟨_, rfl, ?_⟩
                replace HO_364000 := Aside0.mk (Kd.V_mono (Kd.V_told (Kd.V_told (Kd.V_old (VU HO_364000.out) hb) (Kd.R_base ho0)) (Kd.R_base ho1)) (fun _ h_ => h_.1))
                replace HO_364001 := Aside0.mk (Kd.V_mono (Kd.V_told (Kd.V_told (Kd.V_old (VU HO_364001.out) hb) (Kd.R_base ho0)) (Kd.R_base ho1)) (fun _ h_ => h_.1))
                have HO420 := Aside0.mk (Kd.R_lower (Kd.R_new' (Kd.R_new' (Kd.R_new' (Kd.R_new' (Kd.R_new' (Kd.R_new' (Kd.R_new' (Kd.R_new' ho0 (Kd.R_lt (RU HO_371000.out))) (Kd.R_lt (RU HO_371001.out))) (Kd.R_lt (RU HO_378000.out))) (Kd.R_lt (RU HO_378001.out))) (Kd.R_lt (RU HO_386000.out))) (Kd.R_lt (RU HO_386001.out))) (Kd.R_lt (RU HO414.out))) (Kd.R_lt (RU HO417.out))) (below_size (bS7 HB.out GE340.out GE341.out GE363.out GE370.out GE377.out GE385.out GE431.out)))
                have HO423 := Aside0.mk (Kd.R_lower (Kd.R_new' (Kd.R_new' (Kd.R_new' (Kd.R_new' (Kd.R_new' (Kd.R_new' (Kd.R_new' (Kd.R_new' ho1 (Kd.R_lt (RU HO_371000.out))) (Kd.R_lt (RU HO_371001.out))) (Kd.R_lt (RU HO_378000.out))) (Kd.R_lt (RU HO_378001.out))) (Kd.R_lt (RU HO_386000.out))) (Kd.R_lt (RU HO_386001.out))) (Kd.R_lt (RU HO414.out))) (Kd.R_lt (RU HO417.out))) (below_size (bS7 HB.out GE340.out GE341.out GE363.out GE370.out GE377.out GE385.out GE431.out)))
                replace HO_371000 := Aside0.mk (Kd.R_mono (Kd.R_told (Kd.R_told (Kd.R_old (RU HO_371000.out) hb) (Kd.R_base ho0)) (Kd.R_base ho1)) (fun _ h_ => h_.1))
                replace HO_371001 := Aside0.mk (Kd.R_mono (Kd.R_told (Kd.R_told (Kd.R_old (RU HO_371001.out) hb) (Kd.R_base ho0)) (Kd.R_base ho1)) (fun _ h_ => h_.1))
                replace HO_378000 := Aside0.mk (Kd.R_mono (Kd.R_told (Kd.R_told (Kd.R_old (RU HO_378000.out) hb) (Kd.R_base ho0)) (Kd.R_base ho1)) (fun _ h_ => h_.1))
                replace HO_378001 := Aside0.mk (Kd.R_mono (Kd.R_told (Kd.R_told (Kd.R_old (RU HO_378001.out) hb) (Kd.R_base ho0)) (Kd.R_base ho1)) (fun _ h_ => h_.1))
                replace HO_386000 := Aside0.mk (Kd.R_mono (Kd.R_told (Kd.R_told (Kd.R_old (RU HO_386000.out) hb) (Kd.R_base ho0)) (Kd.R_base ho1)) (fun _ h_ => h_.1))
                replace HO_386001 := Aside0.mk (Kd.R_mono (Kd.R_told (Kd.R_told (Kd.R_old (RU HO_386001.out) hb) (Kd.R_base ho0)) (Kd.R_base ho1)) (fun _ h_ => h_.1))
                replace HO414 := Aside0.mk (Kd.R_mono (Kd.R_told (Kd.R_told (Kd.R_old (RU HO414.out) hb) (Kd.R_base ho0)) (Kd.R_base ho1)) (fun _ h_ => h_.1))
                replace HO417 := Aside0.mk (Kd.R_mono (Kd.R_told (Kd.R_told (Kd.R_old (RU HO417.out) hb) (Kd.R_base ho0)) (Kd.R_base ho1)) (fun _ h_ => h_.1))
                replace BK340 := Aside0.mk (kB BK340.out hb)
                replace BK341 := Aside0.mk (kB BK341.out hb)
                replace BK363 := Aside0.mk (kB BK363.out hb)
                replace BK370 := Aside0.mk (kB BK370.out hb)
                replace BK377 := Aside0.mk (kB BK377.out hb)
                replace BK385 := Aside0.mk (kB BK385.out hb)
                replace BK431 := Aside0.mk (kB BK431.out hb)
                replace HB := Aside0.mk (below_step (bS7 HB.out GE340.out GE341.out GE363.out GE370.out GE377.out GE385.out GE431.out) hb)
                (try clear hb)
                (try clear hb2)
                (try clear hk)
                (try clear hi)
                (try clear ho0)
                (try clear ho1)
                obtain ⟨Ao163, co163, eo163⟩ := Kd.R_slice HO414.out
                (first | subst eo163 | (injection eo163 with f1_ f2_ f3_; have f4_ := f1_.symm; have f5_ := f3_.symm; clear f1_ f2_ f3_; subst f4_; subst f5_))
                obtain ⟨Ao164, co164, eo164⟩ := Kd.R_slice HO417.out
                (first | subst eo164 | (injection eo164 with f1_ f2_ f3_; have f4_ := f1_.symm; have f5_ := f3_.symm; clear f1_ f2_ f3_; subst f4_; subst f5_))
                obtain ⟨Ao165, co165, eo165⟩ := Kd.R_slice HO420.out
                (first | subst eo165 | (injection eo165 with f1_ f2_ f3_; have f4_ := f1_.symm; have f5_ := f3_.symm; clear f1_ f2_ f3_; subst f4_; subst f5_))
                obtain ⟨Ao166, co166, eo166⟩ := Kd.R_slice HO423.out
                (first | subst eo166 | (injection eo166 with f1_ f2_ f3_; have f4_ := f1_.symm; have f5_ := f3_.symm; clear f1_ f2_ f3_; subst f4_; subst f5_))
                refine hK.out _ _ ⟨(blk_cell BK340.out 0).trans rfl, (blk_cell BK340.out 1).trans rfl, (blk_cell BK341.out 0).trans rfl, (blk_cell BK341.out 1).trans rfl⟩ (fun hHeld => ?_)
                clear hK K
                refine norm_ (a' := ?_) ?_ ?_
                rotate_left
                ·
                 show Act.put _ (some 98) _ = _
                 simp only [Act.put, List.setIfInBounds_toArray, List.set_cons_zero, List.set_cons_succ, i64_w, i32_w]
                 rfl
                refine one_ (i := 4) (N := some 99) #[true, true, true, true, true, false, false, false, true, false, false] rfl rfl (one_of HT_.out (by kernel_rfl)) (by decide) (fun K hK => ?_)
                refine goes_ Try.func51 (by kernel_rfl) rfl #[.agg #[.slice Ao163 t412.length co163, .slice Ao164 t415.length co164], .agg #[.slice Ao165 t418.length co165, .slice Ao166 t421.length co166]] (by rfl) rfl rfl lU ?_
                with_reducible refine (impl_Join.calls kj101 _ _ t412 _ _ t415 _ _ t418 _ _ t421 t424 t427 t430 _ ?side1 ?side2 ?side3 ?side4 ?side5 ?side6 ?side7 ?side8 A148.out).mono ?_
                (case side1 => exact cU (Kd.R_reads' HO414.out).2.2)
                (case side2 => exact (Kd.R_reads' HO414.out).2.1)
                (case side3 => exact cU (Kd.R_reads' HO417.out).2.2)
                (case side4 => exact (Kd.R_reads' HO417.out).2.1)
                (case side5 => exact cU (Kd.R_reads' HO420.out).2.2)
                (case side6 => exact (Kd.R_reads' HO420.out).2.1)
                (case side7 => exact cU (Kd.R_reads' HO423.out).2.2)
                (case side8 => exact (Kd.R_reads' HO423.out).2.1)
                rintro e w167 ⟨v425, v428, rfl, ho0, ho1, hb⟩
                refine ⟨_, rfl, ?_⟩
                replace HO_364000 := Aside0.mk (Kd.V_mono (Kd.V_told (Kd.V_told (Kd.V_old (VU HO_364000.out) hb) (Kd.R_base ho0)) (Kd.R_base ho1)) (fun _ h_ => h_.1))
                replace HO_364001 := Aside0.mk (Kd.V_mono (Kd.V_told (Kd.V_told (Kd.V_old (VU HO_364001.out) hb) (Kd.R_base ho0)) (Kd.R_base ho1)) (fun _ h_ => h_.1))
                have HO426 := Aside0.mk (Kd.R_lower (Kd.R_new' (Kd.R_new' (Kd.R_new' (Kd.R_new' (Kd.R_new' (Kd.R_new' (Kd.R_new' (Kd.R_new' (Kd.R_new' (Kd.R_new' ho0 (Kd.R_lt (RU HO_371000.out))) (Kd.R_lt (RU HO_371001.out))) (Kd.R_lt (RU HO_378000.out))) (Kd.R_lt (RU HO_378001.out))) (Kd.R_lt (RU HO_386000.out))) (Kd.R_lt (RU HO_386001.out))) (Kd.R_lt (RU HO414.out))) (Kd.R_lt (RU HO417.out))) (Kd.R_lt (RU HO420.out))) (Kd.R_lt (RU HO423.out))) (below_size (bS7 HB.out GE340.out GE341.out GE363.out GE370.out GE377.out GE385.out GE431.out)))
                have HO429 := Aside0.mk (Kd.R_lower (Kd.R_new' (Kd.R_new' (Kd.R_new' (Kd.R_new' (Kd.R_new' (Kd.R_new' (Kd.R_new' (Kd.R_new' (Kd.R_new' (Kd.R_new' ho1 (Kd.R_lt (RU HO_371000.out))) (Kd.R_lt (RU HO_371001.out))) (Kd.R_lt (RU HO_378000.out))) (Kd.R_lt (RU HO_378001.out))) (Kd.R_lt (RU HO_386000.out))) (Kd.R_lt (RU HO_386001.out))) (Kd.R_lt (RU HO414.out))) (Kd.R_lt (RU HO417.out))) (Kd.R_lt (RU HO420.out))) (Kd.R_lt (RU HO423.out))) (below_size (bS7 HB.out GE340.out GE341.out GE363.out GE370.out GE377.out GE385.out GE431.out)))
                replace HO_371000 := Aside0.mk (Kd.R_mono (Kd.R_told (Kd.R_told (Kd.R_old (RU HO_371000.out) hb) (Kd.R_base ho0)) (Kd.R_base ho1)) (fun _ h_ => h_.1))
                replace HO_371001 := Aside0.mk (Kd.R_mono (Kd.R_told (Kd.R_told (Kd.R_old (RU HO_371001.out) hb) (Kd.R_base ho0)) (Kd.R_base ho1)) (fun _ h_ => h_.1))
                replace HO_378000 := Aside0.mk (Kd.R_mono (Kd.R_told (Kd.R_told (Kd.R_old (RU HO_378000.out) hb) (Kd.R_base ho0)) (Kd.R_base ho1)) (fun _ h_ => h_.1))
                replace HO_378001 := Aside0.mk (Kd.R_mono (Kd.R_told (Kd.R_told (Kd.R_old (RU HO_378001.out) hb) (Kd.R_base ho0)) (Kd.R_base ho1)) (fun _ h_ => h_.1))
                replace HO_386000 := Aside0.mk (Kd.R_mono (Kd.R_told (Kd.R_told (Kd.R_old (RU HO_386000.out) hb) (Kd.R_base ho0)) (Kd.R_base ho1)) (fun _ h_ => h_.1))
                replace HO_386001 := Aside0.mk (Kd.R_mono (Kd.R_told (Kd.R_told (Kd.R_old (RU HO_386001.out) hb) (Kd.R_base ho0)) (Kd.R_base ho1)) (fun _ h_ => h_.1))
                replace HO414 := Aside0.mk (Kd.R_mono (Kd.R_told (Kd.R_told (Kd.R_old (RU HO414.out) hb) (Kd.R_base ho0)) (Kd.R_base ho1)) (fun _ h_ => h_.1))
                replace HO417 := Aside0.mk (Kd.R_mono (Kd.R_told (Kd.R_told (Kd.R_old (RU HO417.out) hb) (Kd.R_base ho0)) (Kd.R_base ho1)) (fun _ h_ => h_.1))
                replace HO420 := Aside0.mk (Kd.R_mono (Kd.R_told (Kd.R_told (Kd.R_old (RU HO420.out) hb) (Kd.R_base ho0)) (Kd.R_base ho1)) (fun _ h_ => h_.1))
                replace HO423 := Aside0.mk (Kd.R_mono (Kd.R_told (Kd.R_told (Kd.R_old (RU HO423.out) hb) (Kd.R_base ho0)) (Kd.R_base ho1)) (fun _ h_ => h_.1))
                replace BK340 := Aside0.mk (kB BK340.out hb)
                replace BK341 := Aside0.mk (kB BK341.out hb)
                replace BK363 := Aside0.mk (kB BK363.out hb)
                replace BK370 := Aside0.mk (kB BK370.out hb)
                replace BK377 := Aside0.mk (kB BK377.out hb)
                replace BK385 := Aside0.mk (kB BK385.out hb)
                replace BK431 := Aside0.mk (kB BK431.out hb)
                replace HB := Aside0.mk (below_step (bS7 HB.out GE340.out GE341.out GE363.out GE370.out GE377.out GE385.out GE431.out) hb)
                (try clear hb)
                (try clear hb2)
                (try clear hk)
                (try clear hi)
                (try clear ho0)
                (try clear ho1)
                refine hK.out _ _ ⟨(blk_cell BK340.out 0).trans rfl, (blk_cell BK340.out 1).trans rfl, (blk_cell BK341.out 0).trans rfl, (blk_cell BK341.out 1).trans rfl⟩ (fun hHeld => ?_)
                clear hK K
                refine norm_ (a' := ?_) ?_ ?_
                rotate_left
                ·
                 show Act.put _ (some 99) _ = _
                 simp only [Act.put, List.setIfInBounds_toArray, List.set_cons_zero, List.set_cons_succ, i64_w, i32_w]
                 rfl
                refine pure_ (i := 5) (N := some 94) (v := ?_) (a' := ?_) #[true, true, true, true, true, true, false, false, true, false, false] rfl rfl (any_of HT_.out (by kernel_rfl)) (fun _ _ _ h => h) (Or.inl ⟨by rfl, ?_⟩) ?_ ?_
                rotate_left
                ·
                 intro w'
                 go_simp
                 with_reducible rfl
                rotate_left
                ·
                 simp only [Act.put, List.setIfInBounds_toArray, List.set_cons_zero, List.set_cons_succ, i64_w, i32_w]
                 rfl
                refine pure_ (i := 6) (N := some 100) (v := ?_) (a' := ?_) #[true, true, true, true, true, true, true, false, true, false, false] rfl rfl (any_of HT_.out (by kernel_rfl)) (fun _ _ _ h => h) (Or.inl ⟨by rfl, ?_⟩) ?_ ?_
                rotate_left
                ·
                 intro w'
                 go_simp
                 with_reducible rfl
                rotate_left
                ·
                 simp only [Act.put, List.setIfInBounds_toArray, List.set_cons_zero, List.set_cons_succ, i64_w, i32_w]
                 rfl
                refine pure_ (i := 7) (N := some 101) (v := ?_) (a' := ?_) #[true, true, true, true, true, true, true, true, true, false, false] rfl rfl (any_of HT_.out (by kernel_rfl)) (fun _ _ _ h => h) (Or.inl ⟨by rfl, ?_⟩) ?_ ?_
                rotate_left
                ·
                 intro w'
                 go_simp
                 with_reducible rfl
                rotate_left
                ·
                 simp only [Act.put, List.setIfInBounds_toArray, List.set_cons_zero, List.set_cons_succ, i64_w, i32_w]
                 rfl
                exact norm_ (by simp only [putAll, Act.put, List.setIfInBounds_toArray, List.set_cons_zero, List.set_cons_succ]) (hCont (.slice Ao163 t412.length co163, .slice Ao164 t415.length co164, .slice Ao165 t418.length co165, .slice Ao166 t421.length co166, v425, v428, gb431) _ ⟨hHeld, (by refine RU ?_; exact Kd.R_mono HO414.out (fun _ hk => ⟨hk.1.1.1.1.1.1.1.1.1.1, ⟨hk.1.1.1.2, ⟨hk.1.1.2, ⟨hk.1.2, ⟨hk.2, ⟨hk.1.1.1.1.1.1.1.1.1.2, ⟨hk.1.1.1.1.1.1.1.1.2, ⟨hk.1.1.1.1.1.1.1.2, ⟨hk.1.1.1.1.1.1.2, ⟨hk.1.1.1.1.1.2, hk.1.1.1.1.2⟩⟩⟩⟩⟩⟩⟩⟩⟩⟩)), (by refine RU ?_; exact Kd.R_mono HO417.out (fun _ hk => ⟨hk.1.1.1.1.1.1.1.1.1.1, ⟨hk.1.1.1.2, ⟨hk.1.1.2, ⟨hk.1.2, ⟨hk.2, ⟨hk.1.1.1.1.1.1.1.1.1.2, ⟨hk.1.1.1.1.1.1.1.1.2, ⟨hk.1.1.1.1.1.1.1.2, ⟨hk.1.1.1.1.1.1.2, ⟨hk.1.1.1.1.1.2, hk.1.1.1.1.2⟩⟩⟩⟩⟩⟩⟩⟩⟩⟩)), (by refine RU ?_; exact Kd.R_mono HO420.out (fun _ hk => ⟨hk.1.1.1.2, ⟨hk.1.1.2, ⟨hk.1.1.1.1.1.1.1.1.1.1, ⟨hk.1.2, ⟨hk.2, ⟨hk.1.1.1.1.1.1.1.1.1.2, ⟨hk.1.1.1.1.1.1.1.1.2, ⟨hk.1.1.1.1.1.1.1.2, ⟨hk.1.1.1.1.1.1.2, ⟨hk.1.1.1.1.1.2, hk.1.1.1.1.2⟩⟩⟩⟩⟩⟩⟩⟩⟩⟩)), (by refine RU ?_; exact Kd.R_mono HO423.out (fun _ hk => ⟨hk.1.1.1.2, ⟨hk.1.1.2, ⟨hk.1.1.1.1.1.1.1.1.1.1, ⟨hk.1.2, ⟨hk.2, ⟨hk.1.1.1.1.1.1.1.1.1.2, ⟨hk.1.1.1.1.1.1.1.1.2, ⟨hk.1.1.1.1.1.1.1.2, ⟨hk.1.1.1.1.1.1.2, ⟨hk.1.1.1.1.1.2, hk.1.1.1.1.2⟩⟩⟩⟩⟩⟩⟩⟩⟩⟩)), (by refine RU ?_; exact Kd.R_mono HO426.out (fun _ hk => ⟨hk.1.1.1.2, ⟨hk.1.1.2, ⟨hk.1.2, ⟨hk.2, ⟨hk.1.1.1.1.1.1.1.1.1.1, ⟨hk.1.1.1.1.1.1.1.1.1.2, ⟨hk.1.1.1.1.1.1.1.1.2, ⟨hk.1.1.1.1.1.1.1.2, ⟨hk.1.1.1.1.1.1.2, ⟨hk.1.1.1.1.1.2, hk.1.1.1.1.2⟩⟩⟩⟩⟩⟩⟩⟩⟩⟩)), (by refine RU ?_; exact Kd.R_mono HO429.out (fun _ hk => ⟨hk.1.1.1.2, ⟨hk.1.1.2, ⟨hk.1.2, ⟨hk.2, ⟨hk.1.1.1.1.1.1.1.1.1.1, ⟨hk.1.1.1.1.1.1.1.1.1.2, ⟨hk.1.1.1.1.1.1.1.1.2, ⟨hk.1.1.1.1.1.1.1.2, ⟨hk.1.1.1.1.1.1.2, ⟨hk.1.1.1.1.1.2, hk.1.1.1.1.2⟩⟩⟩⟩⟩⟩⟩⟩⟩⟩)), (by refine VU ?_; exact Kd.V_mono HO_364000.out (fun _ hk => ⟨hk.1.1.1.1.1.1.2, ⟨hk.1.1.1.1.1.2, ⟨hk.1.1.1.2, ⟨hk.1.1.2, ⟨hk.1.2, ⟨hk.2, ⟨hk.1.1.1.1.1.1.1.1, ⟨hk.1.1.1.1.1.1.1.2.1, ⟨hk.1.1.1.1.1.1.1.2.2.1, ⟨hk.1.1.1.1.1.1.1.2.2.2.1, ⟨hk.1.1.1.1.1.1.1.2.2.2.2.1, ⟨hk.1.1.1.1.1.1.1.2.2.2.2.2.1, ⟨hk.1.1.1.1.1.1.1.2.2.2.2.2.2.1, ⟨hk.1.1.1.1.1.1.1.2.2.2.2.2.2.2.1, ⟨hk.1.1.1.1.1.1.1.2.2.2.2.2.2.2.2.1, ⟨hk.1.1.1.1.1.1.1.2.2.2.2.2.2.2.2.2.1, ⟨hk.1.1.1.1.1.1.1.2.2.2.2.2.2.2.2.2.2.1, ⟨hk.1.1.1.1.1.1.1.2.2.2.2.2.2.2.2.2.2.2, hk.1.1.1.1.2⟩⟩⟩⟩⟩⟩⟩⟩⟩⟩⟩⟩⟩⟩⟩⟩⟩⟩)), (by refine VU ?_; exact Kd.V_mono HO_364001.out (fun _ hk => ⟨hk.1.1.1.1.1.1.2, ⟨hk.1.1.1.1.1.2, ⟨hk.1.1.1.2, ⟨hk.1.1.2, ⟨hk.1.2, ⟨hk.2, ⟨hk.1.1.1.1.1.1.1.1, ⟨hk.1.1.1.1.1.1.1.2.1, ⟨hk.1.1.1.1.1.1.1.2.2.1, ⟨hk.1.1.1.1.1.1.1.2.2.2.1, ⟨hk.1.1.1.1.1.1.1.2.2.2.2.1, ⟨hk.1.1.1.1.1.1.1.2.2.2.2.2.1, ⟨hk.1.1.1.1.1.1.1.2.2.2.2.2.2.1, ⟨hk.1.1.1.1.1.1.1.2.2.2.2.2.2.2.1, ⟨hk.1.1.1.1.1.1.1.2.2.2.2.2.2.2.2.1, ⟨hk.1.1.1.1.1.1.1.2.2.2.2.2.2.2.2.2.1, ⟨hk.1.1.1.1.1.1.1.2.2.2.2.2.2.2.2.2.2.1, ⟨hk.1.1.1.1.1.1.1.2.2.2.2.2.2.2.2.2.2.2, hk.1.1.1.1.2⟩⟩⟩⟩⟩⟩⟩⟩⟩⟩⟩⟩⟩⟩⟩⟩⟩⟩)), (by refine RU ?_; exact Kd.R_mono HO_371000.out (fun _ hk => ⟨hk.1.1.1.1.1.2, ⟨hk.1.1.1.1.2, ⟨hk.1.1.1.2, ⟨hk.1.1.2, ⟨hk.1.2, ⟨hk.2, ⟨hk.1.1.1.1.1.1.1, ⟨hk.1.1.1.1.1.1.2.1, ⟨hk.1.1.1.1.1.1.2.2.1, ⟨hk.1.1.1.1.1.1.2.2.2.1, hk.1.1.1.1.1.1.2.2.2.2⟩⟩⟩⟩⟩⟩⟩⟩⟩⟩)), (by refine RU ?_; exact Kd.R_mono HO_371001.out (fun _ hk => ⟨hk.1.1.1.1.1.2, ⟨hk.1.1.1.1.2, ⟨hk.1.1.1.2, ⟨hk.1.1.2, ⟨hk.1.2, ⟨hk.2, ⟨hk.1.1.1.1.1.1.1, ⟨hk.1.1.1.1.1.1.2.1, ⟨hk.1.1.1.1.1.1.2.2.1, ⟨hk.1.1.1.1.1.1.2.2.2.1, hk.1.1.1.1.1.1.2.2.2.2⟩⟩⟩⟩⟩⟩⟩⟩⟩⟩)), (by refine RU ?_; exact Kd.R_mono HO_378000.out (fun _ hk => ⟨hk.1.1.1.1.1.2, ⟨hk.1.1.1.1.2, ⟨hk.1.1.1.2, ⟨hk.1.1.2, ⟨hk.1.2, ⟨hk.2, ⟨hk.1.1.1.1.1.1.1, ⟨hk.1.1.1.1.1.1.2.1, ⟨hk.1.1.1.1.1.1.2.2.1, ⟨hk.1.1.1.1.1.1.2.2.2.1, hk.1.1.1.1.1.1.2.2.2.2⟩⟩⟩⟩⟩⟩⟩⟩⟩⟩)), (by refine RU ?_; exact Kd.R_mono HO_378001.out (fun _ hk => ⟨hk.1.1.1.1.1.2, ⟨hk.1.1.1.1.2, ⟨hk.1.1.1.2, ⟨hk.1.1.2, ⟨hk.1.2, ⟨hk.2, ⟨hk.1.1.1.1.1.1.1, ⟨hk.1.1.1.1.1.1.2.1, ⟨hk.1.1.1.1.1.1.2.2.1, ⟨hk.1.1.1.1.1.1.2.2.2.1, hk.1.1.1.1.1.1.2.2.2.2⟩⟩⟩⟩⟩⟩⟩⟩⟩⟩)), (by refine RU ?_; exact Kd.R_mono HO_386000.out (fun _ hk => ⟨hk.1.1.1.1.1.2, ⟨hk.1.1.1.1.2, ⟨hk.1.1.1.2, ⟨hk.1.1.2, ⟨hk.1.2, ⟨hk.2, ⟨hk.1.1.1.1.1.1.1, ⟨hk.1.1.1.1.1.1.2.1, ⟨hk.1.1.1.1.1.1.2.2.1, ⟨hk.1.1.1.1.1.1.2.2.2.1, hk.1.1.1.1.1.1.2.2.2.2⟩⟩⟩⟩⟩⟩⟩⟩⟩⟩)), (by refine RU ?_; exact Kd.R_mono HO_386001.out (fun _ hk => ⟨hk.1.1.1.1.1.2, ⟨hk.1.1.1.1.2, ⟨hk.1.1.1.2, ⟨hk.1.1.2, ⟨hk.1.2, ⟨hk.2, ⟨hk.1.1.1.1.1.1.1, ⟨hk.1.1.1.1.1.1.2.1, ⟨hk.1.1.1.1.1.1.2.2.1, ⟨hk.1.1.1.1.1.1.2.2.2.1, hk.1.1.1.1.1.1.2.2.2.2⟩⟩⟩⟩⟩⟩⟩⟩⟩⟩)), (kU BK340.out), (kU BK341.out), (kU BK363.out), (kU BK370.out), (kU BK377.out), (kU BK385.out), (kU BK431.out), GW431.out, GE431.out, NB340_431.out, NB431_340.out, NB341_431.out, NB431_341.out, NB363_431.out, NB431_363.out, NB370_431.out, NB431_370.out, NB377_431.out, NB431_377.out, NB385_431.out, NB431_385.out, (bS7 HB.out GE340.out GE341.out GE363.out GE370.out GE377.out GE385.out GE431.out)⟩)
              ·
               skip
               refine box_step ?hg (N := 15) ?hd (cs := #[.slice none 0 0, .slice none 0 0]) (t := 26) ?hr ?_; (case hd => rfl); (case hg => rfl); (case hr => first | (go_simp; done) | (go_simp; rfl))
               intro gb431 hg w160 hbox hb
               replace HO_364000 := Aside0.mk (Kd.V_below (Kd.V_elderB (VU HO_364000.out) gb431 (Nat.le_of_eq hg.symm)) hb)
               replace HO_364001 := Aside0.mk (Kd.V_below (Kd.V_elderB (VU HO_364001.out) gb431 (Nat.le_of_eq hg.symm)) hb)
               replace HO_371000 := Aside0.mk (Kd.R_below (RU HO_371000.out) hb)
               replace HO_371001 := Aside0.mk (Kd.R_below (RU HO_371001.out) hb)
               replace HO_378000 := Aside0.mk (Kd.R_below (RU HO_378000.out) hb)
               replace HO_378001 := Aside0.mk (Kd.R_below (RU HO_378001.out) hb)
               replace HO_386000 := Aside0.mk (Kd.R_below (RU HO_386000.out) hb)
               replace HO_386001 := Aside0.mk (Kd.R_below (RU HO_386001.out) hb)
               have BK431 := Aside0.mk (hbox)
               have GW431 := Aside0.mk ((by rw [hg]; exact (below_size (bS6 HB.out GE340.out GE341.out GE363.out GE370.out GE377.out GE385.out)) : w.heap.size ≤ gb431))
               have GE431 := Aside0.mk ((by rw [hg]; exact (below_size (bS6 HB.out GE340.out GE341.out GE363.out GE370.out GE377.out GE385.out)) : w.heap.size ≤ gb431))
               replace HB := Aside0.mk (below_step (bS6 HB.out GE340.out GE341.out GE363.out GE370.out GE377.out GE385.out) hb)
               have NB340_431 := Aside0.mk (kN BK340.out hg)
               have NB431_340 := Aside0.mk (kM BK340.out hg)
               replace BK340 := Aside0.mk (kB BK340.out hb)
               have NB341_431 := Aside0.mk (kN BK341.out hg)
               have NB431_341 := Aside0.mk (kM BK341.out hg)
               replace BK341 := Aside0.mk (kB BK341.out hb)
               have NB363_431 := Aside0.mk (kN BK363.out hg)
               have NB431_363 := Aside0.mk (kM BK363.out hg)
               replace BK363 := Aside0.mk (kB BK363.out hb)
               have NB370_431 := Aside0.mk (kN BK370.out hg)
               have NB431_370 := Aside0.mk (kM BK370.out hg)
               replace BK370 := Aside0.mk (kB BK370.out hb)
               have NB377_431 := Aside0.mk (kN BK377.out hg)
               have NB431_377 := Aside0.mk (kM BK377.out hg)
               replace BK377 := Aside0.mk (kB BK377.out hb)
               have NB385_431 := Aside0.mk (kN BK385.out hg)
               have NB431_385 := Aside0.mk (kM BK385.out hg)
               replace BK385 := Aside0.mk (kB BK385.out hb)
               clear hb hbox hg
               refine hK.out _ _ ⟨(blk_cell BK340.out 0).trans rfl, (blk_cell BK340.out 1).trans rfl, (blk_cell BK341.out 0).trans rfl, (blk_cell BK341.out 1).trans rfl⟩ (fun hHeld => ?_)
               clear hK K
               refine norm_ (a' := ?_) ?_ ?_
               rotate_left
               ·
                show Act.put _ (some 15) _ = _
                simp only [Act.put, List.setIfInBounds_toArray, List.set_cons_zero, List.set_cons_succ, i64_w, i32_w]
                rfl
               refine one_ (i := 1) (N := some 96) #[true, true, true, false, false, false, false, false, true, false, false] rfl rfl (one_of HT_.out (by kernel_rfl)) (by decide) (fun K hK => ?_)
               refine goes_ Try.func17 (by kernel_rfl) rfl #[.agg #[.slice A0_0 l0_0.length c0_0, .slice A0_1 l0_1.length c0_1]] (by rfl) rfl rfl lU ?_
               with_reducible refine (laws_toArray.calls kj101 _ _ l0_0 _ _ l0_1 t412 t415 _ ?side1 ?side2 ?side3 ?side4 A146.out).mono ?_
               (case side1 => exact cU (Kd.C_below HR0_0.out HB.out))
               (case side2 => exact HC0_0.out)
               (case side3 => exact cU (Kd.C_below HR0_1.out HB.out))
               (case side4 => exact HC0_1.out)
               rintro e w161 ⟨v413, v416, rfl, ho0, ho1, hb⟩
               refine ⟨_, rfl, ?_⟩
               replace HO_364000 := Aside0.mk (Kd.V_mono (Kd.V_told (Kd.V_told (Kd.V_old (VU HO_364000.out) hb) (Kd.R_base ho0)) (Kd.R_base ho1)) (fun _ h_ => h_.1))
               replace HO_364001 := Aside0.mk (Kd.V_mono (Kd.V_told (Kd.V_told (Kd.V_old (VU HO_364001.out) hb) (Kd.R_base ho0)) (Kd.R_base ho1)) (fun _ h_ => h_.1))
               have HO414 := Aside0.mk (Kd.R_lower (Kd.R_new' (Kd.R_new' (Kd.R_new' (Kd.R_new' (Kd.R_new' (Kd.R_new' ho0 (Kd.R_lt (RU HO_371000.out))) (Kd.R_lt (RU HO_371001.out))) (Kd.R_lt (RU HO_378000.out))) (Kd.R_lt (RU HO_378001.out))) (Kd.R_lt (RU HO_386000.out))) (Kd.R_lt (RU HO_386001.out))) (below_size (bS7 HB.out GE340.out GE341.out GE363.out GE370.out GE377.out GE385.out GE431.out)))
               have HO417 := Aside0.mk (Kd.R_lower (Kd.R_new' (Kd.R_new' (Kd.R_new' (Kd.R_new' (Kd.R_new' (Kd.R_new' ho1 (Kd.R_lt (RU HO_371000.out))) (Kd.R_lt (RU HO_371001.out))) (Kd.R_lt (RU HO_378000.out))) (Kd.R_lt (RU HO_378001.out))) (Kd.R_lt (RU HO_386000.out))) (Kd.R_lt (RU HO_386001.out))) (below_size (bS7 HB.out GE340.out GE341.out GE363.out GE370.out GE377.out GE385.out GE431.out)))
               replace HO_371000 := Aside0.mk (Kd.R_mono (Kd.R_told (Kd.R_told (Kd.R_old (RU HO_371000.out) hb) (Kd.R_base ho0)) (Kd.R_base ho1)) (fun _ h_ => h_.1))
               replace HO_371001 := Aside0.mk (Kd.R_mono (Kd.R_told (Kd.R_told (Kd.R_old (RU HO_371001.out) hb) (Kd.R_base ho0)) (Kd.R_base ho1)) (fun _ h_ => h_.1))
               replace HO_378000 := Aside0.mk (Kd.R_mono (Kd.R_told (Kd.R_told (Kd.R_old (RU HO_378000.out) hb) (Kd.R_base ho0)) (Kd.R_base ho1)) (fun _ h_ => h_.1))
               replace HO_378001 := Aside0.mk (Kd.R_mono (Kd.R_told (Kd.R_told (Kd.R_old (RU HO_378001.out) hb) (Kd.R_base ho0)) (Kd.R_base ho1)) (fun _ h_ => h_.1))
               replace HO_386000 := Aside0.mk (Kd.R_mono (Kd.R_told (Kd.R_told (Kd.R_old (RU HO_386000.out) hb) (Kd.R_base ho0)) (Kd.R_base ho1)) (fun _ h_ => h_.1))
               replace HO_386001 := Aside0.mk (Kd.R_mono (Kd.R_told (Kd.R_told (Kd.R_old (RU HO_386001.out) hb) (Kd.R_base ho0)) (Kd.R_base ho1)) (fun _ h_ => h_.1))
               replace BK340 := Aside0.mk (kB BK340.out hb)
               replace BK341 := Aside0.mk (kB BK341.out hb)
               replace BK363 := Aside0.mk (kB BK363.out hb)
               replace BK370 := Aside0.mk (kB BK370.out hb)
               replace BK377 := Aside0.mk (kB BK377.out hb)
               replace BK385 := Aside0.mk (kB BK385.out hb)
               replace BK431 := Aside0.mk (kB BK431.out hb)
               replace HB := Aside0.mk (below_step (bS7 HB.out GE340.out GE341.out GE363.out GE370.out GE377.out GE385.out GE431.out) hb)
               (try clear hb)
               (try clear hb2)
               (try clear hk)
               (try clear hi)
               (try clear ho0)
               (try clear ho1)
               refine hK.out _ _ ⟨(blk_cell BK340.out 0).trans rfl, (blk_cell BK340.out 1).trans rfl, (blk_cell BK341.out 0).trans rfl, (blk_cell BK341.out 1).trans rfl⟩ (fun hHeld => ?_)
               clear hK K
               refine norm_ (a' := ?_) ?_ ?_
               rotate_left
               ·
                show Act.put _ (some 96) _ = _
                simp only [Act.put, List.setIfInBounds_toArray, List.set_cons_zero, List.set_cons_succ, i64_w, i32_w]
                rfl
               refine one_ (i := 3) (N := some 98) #[true, true, true, true, false, false, false, false, true, false, false] rfl rfl (one_of HT_.out (by kernel_rfl)) (by decide) (fun K hK => ?_)
               refine goes_ Try.func17 (by kernel_rfl) rfl #[.agg #[.slice A1_0 l1_0.length c1_0, .slice A1_1 l1_1.length c1_1]] (by rfl) rfl rfl lU ?_
               with_reducible refine (laws_toArray.calls kj101 _ _ l1_0 _ _ l1_1 t418 t421 _ ?side1 ?side2 ?side3 ?side4 A147.out).mono ?_
               (case side1 => exact cU (Kd.C_below HR1_0.out HB.out))
               (case side2 => exact HC1_0.out)
               (case side3 => exact cU (Kd.C_below HR1_1.out HB.out))
               (case side4 => exact HC1_1.out)
               rintro e w162 ⟨v419, v422, rfl, ho0, ho1, hb⟩
               refine ⟨_, rfl, ?_⟩
               replace HO_364000 := Aside0.mk (Kd.V_mono (Kd.V_told (Kd.V_told (Kd.V_old (VU HO_364000.out) hb) (Kd.R_base ho0)) (Kd.R_base ho1)) (fun _ h_ => h_.1))
               replace HO_364001 := Aside0.mk (Kd.V_mono (Kd.V_told (Kd.V_told (Kd.V_old (VU HO_364001.out) hb) (Kd.R_base ho0)) (Kd.R_base ho1)) (fun _ h_ => h_.1))
               have HO420 := Aside0.mk (Kd.R_lower (Kd.R_new' (Kd.R_new' (Kd.R_new' (Kd.R_new' (Kd.R_new' (Kd.R_new' (Kd.R_new' (Kd.R_new' ho0 (Kd.R_lt (RU HO_371000.out))) (Kd.R_lt (RU HO_371001.out))) (Kd.R_lt (RU HO_378000.out))) (Kd.R_lt (RU HO_378001.out))) (Kd.R_lt (RU HO_386000.out))) (Kd.R_lt (RU HO_386001.out))) (Kd.R_lt (RU HO414.out))) (Kd.R_lt (RU HO417.out))) (below_size (bS7 HB.out GE340.out GE341.out GE363.out GE370.out GE377.out GE385.out GE431.out)))
               have HO423 := Aside0.mk (Kd.R_lower (Kd.R_new' (Kd.R_new' (Kd.R_new' (Kd.R_new' (Kd.R_new' (Kd.R_new' (Kd.R_new' (Kd.R_new' ho1 (Kd.R_lt (RU HO_371000.out))) (Kd.R_lt (RU HO_371001.out))) (Kd.R_lt (RU HO_378000.out))) (Kd.R_lt (RU HO_378001.out))) (Kd.R_lt (RU HO_386000.out))) (Kd.R_lt (RU HO_386001.out))) (Kd.R_lt (RU HO414.out))) (Kd.R_lt (RU HO417.out))) (below_size (bS7 HB.out GE340.out GE341.out GE363.out GE370.out GE377.out GE385.out GE431.out)))
               replace HO_371000 := Aside0.mk (Kd.R_mono (Kd.R_told (Kd.R_told (Kd.R_old (RU HO_371000.out) hb) (Kd.R_base ho0)) (Kd.R_base ho1)) (fun _ h_ => h_.1))
               replace HO_371001 := Aside0.mk (Kd.R_mono (Kd.R_told (Kd.R_told (Kd.R_old (RU HO_371001.out) hb) (Kd.R_base ho0)) (Kd.R_base ho1)) (fun _ h_ => h_.1))
               replace HO_378000 := Aside0.mk (Kd.R_mono (Kd.R_told (Kd.R_told (Kd.R_old (RU HO_378000.out) hb) (Kd.R_base ho0)) (Kd.R_base ho1)) (fun _ h_ => h_.1))
               replace HO_378001 := Aside0.mk (Kd.R_mono (Kd.R_told (Kd.R_told (Kd.R_old (RU HO_378001.out) hb) (Kd.R_base ho0)) (Kd.R_base ho1)) (fun _ h_ => h_.1))
               replace HO_386000 := Aside0.mk (Kd.R_mono (Kd.R_told (Kd.R_told (Kd.R_old (RU HO_386000.out) hb) (Kd.R_base ho0)) (Kd.R_base ho1)) (fun _ h_ => h_.1))
               replace HO_386001 := Aside0.mk (Kd.R_mono (Kd.R_told (Kd.R_told (Kd.R_old (RU HO_386001.out) hb) (Kd.R_base ho0)) (Kd.R_base ho1)) (fun _ h_ => h_.1))
               replace HO414 := Aside0.mk (Kd.R_mono (Kd.R_told (Kd.R_told (Kd.R_old (RU HO414.out) hb) (Kd.R_base ho0)) (Kd.R_base ho1)) (fun _ h_ => h_.1))
               replace HO417 := Aside0.mk (Kd.R_mono (Kd.R_told (Kd.R_told (Kd.R_old (RU HO417.out) hb) (Kd.R_base ho0)) (Kd.R_base ho1)) (fun _ h_ => h_.1))
               replace BK340 := Aside0.mk (kB BK340.out hb)
               replace BK341 := Aside0.mk (kB BK341.out hb)
               replace BK363 := Aside0.mk (kB BK363.out hb)
               replace BK370 := Aside0.mk (kB BK370.out hb)
               replace BK377 := Aside0.mk (kB BK377.out hb)
               replace BK385 := Aside0.mk (kB BK385.out hb)
               replace BK431 := Aside0.mk (kB BK431.out hb)
               replace HB := Aside0.mk (below_step (bS7 HB.out GE340.out GE341.out GE363.out GE370.out GE377.out GE385.out GE431.out) hb)
               (try clear hb)
               (try clear hb2)
               (try clear hk)
               (try clear hi)
               (try clear ho0)
               (try clear ho1)
               obtain ⟨Ao163, co163, eo163⟩ := Kd.R_slice HO414.out
               (first | subst eo163 | (injection eo163 with f1_ f2_ f3_; have f4_ := f1_.symm; have f5_ := f3_.symm; clear f1_ f2_ f3_; subst f4_; subst f5_))
               obtain ⟨Ao164, co164, eo164⟩ := Kd.R_slice HO417.out
               (first | subst eo164 | (injection eo164 with f1_ f2_ f3_; have f4_ := f1_.symm; have f5_ := f3_.symm; clear f1_ f2_ f3_; subst f4_; subst f5_))
               obtain ⟨Ao165, co165, eo165⟩ := Kd.R_slice HO420.out
               (first | subst eo165 | (injection eo165 with f1_ f2_ f3_; have f4_ := f1_.symm; have f5_ := f3_.symm; clear f1_ f2_ f3_; subst f4_; subst f5_))
               obtain ⟨Ao166, co166, eo166⟩ := Kd.R_slice HO423.out
               (first | subst eo166 | (injection eo166 with f1_ f2_ f3_; have f4_ := f1_.symm; have f5_ := f3_.symm; clear f1_ f2_ f3_; subst f4_; subst f5_))
               refine hK.out _ _ ⟨(blk_cell BK340.out 0).trans rfl, (blk_cell BK340.out 1).trans rfl, (blk_cell BK341.out 0).trans rfl, (blk_cell BK341.out 1).trans rfl⟩ (fun hHeld => ?_)
               clear hK K
               refine norm_ (a' := ?_) ?_ ?_
               rotate_left
               ·
                show Act.put _ (some 98) _ = _
                simp only [Act.put, List.setIfInBounds_toArray, List.set_cons_zero, List.set_cons_succ, i64_w, i32_w]
                rfl
               refine one_ (i := 4) (N := some 99) #[true, true, true, true, true, false, false, false, true, false, false] rfl rfl (one_of HT_.out (by kernel_rfl)) (by decide) (fun K hK => ?_)
               refine goes_ Try.func51 (by kernel_rfl) rfl #[.agg #[.slice Ao163 t412.length co163, .slice Ao164 t415.length co164], .agg #[.slice Ao165 t418.length co165, .slice Ao166 t421.length co166]] (by rfl) rfl rfl lU ?_
               with_reducible refine (impl_Join.calls kj101 _ _ t412 _ _ t415 _ _ t418 _ _ t421 t424 t427 t430 _ ?side1 ?side2 ?side3 ?side4 ?side5 ?side6 ?side7 ?side8 A148.out).mono ?_
               (case side1 => exact cU (Kd.R_reads' HO414.out).2.2)
               (case side2 => exact (Kd.R_reads' HO414.out).2.1)
               (case side3 => exact cU (Kd.R_reads' HO417.out).2.2)
               (case side4 => exact (Kd.R_reads' HO417.out).2.1)
               (case side5 => exact cU (Kd.R_reads' HO420.out).2.2)
               (case side6 => exact (Kd.R_reads' HO420.out).2.1)
               (case side7 => exact cU (Kd.R_reads' HO423.out).2.2)
               (case side8 => exact (Kd.R_reads' HO423.out).2.1)
               rintro e w167 ⟨v425, v428, rfl, ho0, ho1, hb⟩
               refine ⟨_, rfl, ?_⟩
               replace HO_364000 := Aside0.mk (Kd.V_mono (Kd.V_told (Kd.V_told (Kd.V_old (VU HO_364000.out) hb) (Kd.R_base ho0)) (Kd.R_base ho1)) (fun _ h_ => h_.1))
               replace HO_364001 := Aside0.mk (Kd.V_mono (Kd.V_told (Kd.V_told (Kd.V_old (VU HO_364001.out) hb) (Kd.R_base ho0)) (Kd.R_base ho1)) (fun _ h_ => h_.1))
               have HO426 := Aside0.mk (Kd.R_lower (Kd.R_new' (Kd.R_new' (Kd.R_new' (Kd.R_new' (Kd.R_new' (Kd.R_new' (Kd.R_new' (Kd.R_new' (Kd.R_new' (Kd.R_new' ho0 (Kd.R_lt (RU HO_371000.out))) (Kd.R_lt (RU HO_371001.out))) (Kd.R_lt (RU HO_378000.out))) (Kd.R_lt (RU HO_378001.out))) (Kd.R_lt (RU HO_386000.out))) (Kd.R_lt (RU HO_386001.out))) (Kd.R_lt (RU HO414.out))) (Kd.R_lt (RU HO417.out))) (Kd.R_lt (RU HO420.out))) (Kd.R_lt (RU HO423.out))) (below_size (bS7 HB.out GE340.out GE341.out GE363.out GE370.out GE377.out GE385.out GE431.out)))
               have HO429 := Aside0.mk (Kd.R_lower (Kd.R_new' (Kd.R_new' (Kd.R_new' (Kd.R_new' (Kd.R_new' (Kd.R_new' (Kd.R_new' (Kd.R_new' (Kd.R_new' (Kd.R_new' ho1 (Kd.R_lt (RU HO_371000.out))) (Kd.R_lt (RU HO_371001.out))) (Kd.R_lt (RU HO_378000.out))) (Kd.R_lt (RU HO_378001.out))) (Kd.R_lt (RU HO_386000.out))) (Kd.R_lt (RU HO_386001.out))) (Kd.R_lt (RU HO414.out))) (Kd.R_lt (RU HO417.out))) (Kd.R_lt (RU HO420.out))) (Kd.R_lt (RU HO423.out))) (below_size (bS7 HB.out GE340.out GE341.out GE363.out GE370.out GE377.out GE385.out GE431.out)))
               replace HO_371000 := Aside0.mk (Kd.R_mono (Kd.R_told (Kd.R_told (Kd.R_old (RU HO_371000.out) hb) (Kd.R_base ho0)) (Kd.R_base ho1)) (fun _ h_ => h_.1))
               replace HO_371001 := Aside0.mk (Kd.R_mono (Kd.R_told (Kd.R_told (Kd.R_old (RU HO_371001.out) hb) (Kd.R_base ho0)) (Kd.R_base ho1)) (fun _ h_ => h_.1))
               replace HO_378000 := Aside0.mk (Kd.R_mono (Kd.R_told (Kd.R_told (Kd.R_old (RU HO_378000.out) hb) (Kd.R_base ho0)) (Kd.R_base ho1)) (fun _ h_ => h_.1))
               replace HO_378001 := Aside0.mk (Kd.R_mono (Kd.R_told (Kd.R_told (Kd.R_old (RU HO_378001.out) hb) (Kd.R_base ho0)) (Kd.R_base ho1)) (fun _ h_ => h_.1))
               replace HO_386000 := Aside0.mk (Kd.R_mono (Kd.R_told (Kd.R_told (Kd.R_old (RU HO_386000.out) hb) (Kd.R_base ho0)) (Kd.R_base ho1)) (fun _ h_ => h_.1))
               replace HO_386001 := Aside0.mk (Kd.R_mono (Kd.R_told (Kd.R_told (Kd.R_old (RU HO_386001.out) hb) (Kd.R_base ho0)) (Kd.R_base ho1)) (fun _ h_ => h_.1))
               replace HO414 := Aside0.mk (Kd.R_mono (Kd.R_told (Kd.R_told (Kd.R_old (RU HO414.out) hb) (Kd.R_base ho0)) (Kd.R_base ho1)) (fun _ h_ => h_.1))
               replace HO417 := Aside0.mk (Kd.R_mono (Kd.R_told (Kd.R_told (Kd.R_old (RU HO417.out) hb) (Kd.R_base ho0)) (Kd.R_base ho1)) (fun _ h_ => h_.1))
               replace HO420 := Aside0.mk (Kd.R_mono (Kd.R_told (Kd.R_told (Kd.R_old (RU HO420.out) hb) (Kd.R_base ho0)) (Kd.R_base ho1)) (fun _ h_ => h_.1))
               replace HO423 := Aside0.mk (Kd.R_mono (Kd.R_told (Kd.R_told (Kd.R_old (RU HO423.out) hb) (Kd.R_base ho0)) (Kd.R_base ho1)) (fun _ h_ => h_.1))
               replace BK340 := Aside0.mk (kB BK340.out hb)
               replace BK341 := Aside0.mk (kB BK341.out hb)
               replace BK363 := Aside0.mk (kB BK363.out hb)
               replace BK370 := Aside0.mk (kB BK370.out hb)
               replace BK377 := Aside0.mk (kB BK377.out hb)
               replace BK385 := Aside0.mk (kB BK385.out hb)
               replace BK431 := Aside0.mk (kB BK431.out hb)
               replace HB := Aside0.mk (below_step (bS7 HB.out GE340.out GE341.out GE363.out GE370.out GE377.out GE385.out GE431.out) hb)
               (try clear hb)
               (try clear hb2)
               (try clear hk)
               (try clear hi)
               (try clear ho0)
               (try clear ho1)
               refine hK.out _ _ ⟨(blk_cell BK340.out 0).trans rfl, (blk_cell BK340.out 1).trans rfl, (blk_cell BK341.out 0).trans rfl, (blk_cell BK341.out 1).trans rfl⟩ (fun hHeld => ?_)
               clear hK K
               refine norm_ (a' := ?_) ?_ ?_
               rotate_left
               ·
                show Act.put _ (some 99) _ = _
                simp only [Act.put, List.setIfInBounds_toArray, List.set_cons_zero, List.set_cons_succ, i64_w, i32_w]
                rfl
               refine pure_ (i := 5) (N := some 94) (v := ?_) (a' := ?_) #[true, true, true, true, true, true, false, false, true, false, false] rfl rfl (any_of HT_.out (by kernel_rfl)) (fun _ _ _ h => h) (Or.inl ⟨by rfl, ?_⟩) ?_ ?_
               rotate_left
               ·
                intro w'
                go_simp
                with_reducible rfl
               rotate_left
               ·
                simp only [Act.put, List.setIfInBounds_toArray, List.set_cons_zero, List.set_cons_succ, i64_w, i32_w]
                rfl
               refine pure_ (i := 6) (N := some 100) (v := ?_) (a' := ?_) #[true, true, true, true, true, true, true, false, true, false, false] rfl rfl (any_of HT_.out (by kernel_rfl)) (fun _ _ _ h => h) (Or.inl ⟨by rfl, ?_⟩) ?_ ?_
               rotate_left
               ·
                intro w'
                go_simp
                with_reducible rfl
               rotate_left
               ·
                simp only [Act.put, List.setIfInBounds_toArray, List.set_cons_zero, List.set_cons_succ, i64_w, i32_w]
                rfl
               refine pure_ (i := 7) (N := some 101) (v := ?_) (a' := ?_) #[true, true, true, true, true, true, true, true, true, false, false] rfl rfl (any_of HT_.out (by kernel_rfl)) (fun _ _ _ h => h) (Or.inl ⟨by rfl, ?_⟩) ?_ ?_
               rotate_left
               ·
                intro w'
                go_simp
                with_reducible rfl
               rotate_left
               ·
                simp only [Act.put, List.setIfInBounds_toArray, List.set_cons_zero, List.set_cons_succ, i64_w, i32_w]
                rfl
               exact norm_ (by simp only [putAll, Act.put, List.setIfInBounds_toArray, List.set_cons_zero, List.set_cons_succ]) (hCont (.slice Ao163 t412.length co163, .slice Ao164 t415.length co164, .slice Ao165 t418.length co165, .slice Ao166 t421.length co166, v425, v428, gb431) _ ⟨hHeld, (by refine RU ?_; exact Kd.R_mono HO414.out (fun _ hk => ⟨hk.1.1.1.1.1.1.1.1.1.1, ⟨hk.1.1.1.2, ⟨hk.1.1.2, ⟨hk.1.2, ⟨hk.2, ⟨hk.1.1.1.1.1.1.1.1.1.2, ⟨hk.1.1.1.1.1.1.1.1.2, ⟨hk.1.1.1.1.1.1.1.2, ⟨hk.1.1.1.1.1.1.2, ⟨hk.1.1.1.1.1.2, hk.1.1.1.1.2⟩⟩⟩⟩⟩⟩⟩⟩⟩⟩)), (by refine RU ?_; exact Kd.R_mono HO417.out (fun _ hk => ⟨hk.1.1.1.1.1.1.1.1.1.1, ⟨hk.1.1.1.2, ⟨hk.1.1.2, ⟨hk.1.2, ⟨hk.2, ⟨hk.1.1.1.1.1.1.1.1.1.2, ⟨hk.1.1.1.1.1.1.1.1.2, ⟨hk.1.1.1.1.1.1.1.2, ⟨hk.1.1.1.1.1.1.2, ⟨hk.1.1.1.1.1.2, hk.1.1.1.1.2⟩⟩⟩⟩⟩⟩⟩⟩⟩⟩)), (by refine RU ?_; exact Kd.R_mono HO420.out (fun _ hk => ⟨hk.1.1.1.2, ⟨hk.1.1.2, ⟨hk.1.1.1.1.1.1.1.1.1.1, ⟨hk.1.2, ⟨hk.2, ⟨hk.1.1.1.1.1.1.1.1.1.2, ⟨hk.1.1.1.1.1.1.1.1.2, ⟨hk.1.1.1.1.1.1.1.2, ⟨hk.1.1.1.1.1.1.2, ⟨hk.1.1.1.1.1.2, hk.1.1.1.1.2⟩⟩⟩⟩⟩⟩⟩⟩⟩⟩)), (by refine RU ?_; exact Kd.R_mono HO423.out (fun _ hk => ⟨hk.1.1.1.2, ⟨hk.1.1.2, ⟨hk.1.1.1.1.1.1.1.1.1.1, ⟨hk.1.2, ⟨hk.2, ⟨hk.1.1.1.1.1.1.1.1.1.2, ⟨hk.1.1.1.1.1.1.1.1.2, ⟨hk.1.1.1.1.1.1.1.2, ⟨hk.1.1.1.1.1.1.2, ⟨hk.1.1.1.1.1.2, hk.1.1.1.1.2⟩⟩⟩⟩⟩⟩⟩⟩⟩⟩)), (by refine RU ?_; exact Kd.R_mono HO426.out (fun _ hk => ⟨hk.1.1.1.2, ⟨hk.1.1.2, ⟨hk.1.2, ⟨hk.2, ⟨hk.1.1.1.1.1.1.1.1.1.1, ⟨hk.1.1.1.1.1.1.1.1.1.2, ⟨hk.1.1.1.1.1.1.1.1.2, ⟨hk.1.1.1.1.1.1.1.2, ⟨hk.1.1.1.1.1.1.2, ⟨hk.1.1.1.1.1.2, hk.1.1.1.1.2⟩⟩⟩⟩⟩⟩⟩⟩⟩⟩)), (by refine RU ?_; exact Kd.R_mono HO429.out (fun _ hk => ⟨hk.1.1.1.2, ⟨hk.1.1.2, ⟨hk.1.2, ⟨hk.2, ⟨hk.1.1.1.1.1.1.1.1.1.1, ⟨hk.1.1.1.1.1.1.1.1.1.2, ⟨hk.1.1.1.1.1.1.1.1.2, ⟨hk.1.1.1.1.1.1.1.2, ⟨hk.1.1.1.1.1.1.2, ⟨hk.1.1.1.1.1.2, hk.1.1.1.1.2⟩⟩⟩⟩⟩⟩⟩⟩⟩⟩)), (by refine VU ?_; exact Kd.V_mono HO_364000.out (fun _ hk => ⟨hk.1.1.1.1.1.2, ⟨hk.1.1.1.1.2, ⟨hk.1.1.1.2, ⟨hk.1.1.2, ⟨hk.1.2, ⟨hk.2, ⟨hk.1.1.1.1.1.1.1.1, ⟨hk.1.1.1.1.1.1.1.2.1, ⟨hk.1.1.1.1.1.1.1.2.2.1, ⟨hk.1.1.1.1.1.1.1.2.2.2.1, ⟨hk.1.1.1.1.1.1.1.2.2.2.2.1, ⟨hk.1.1.1.1.1.1.1.2.2.2.2.2.1, ⟨hk.1.1.1.1.1.1.1.2.2.2.2.2.2.1, ⟨hk.1.1.1.1.1.1.1.2.2.2.2.2.2.2.1, ⟨hk.1.1.1.1.1.1.1.2.2.2.2.2.2.2.2.1, ⟨hk.1.1.1.1.1.1.1.2.2.2.2.2.2.2.2.2.1, ⟨hk.1.1.1.1.1.1.1.2.2.2.2.2.2.2.2.2.2.1, ⟨hk.1.1.1.1.1.1.1.2.2.2.2.2.2.2.2.2.2.2, hk.1.1.1.1.1.1.2⟩⟩⟩⟩⟩⟩⟩⟩⟩⟩⟩⟩⟩⟩⟩⟩⟩⟩)), (by refine VU ?_; exact Kd.V_mono HO_364001.out (fun _ hk => ⟨hk.1.1.1.1.1.2, ⟨hk.1.1.1.1.2, ⟨hk.1.1.1.2, ⟨hk.1.1.2, ⟨hk.1.2, ⟨hk.2, ⟨hk.1.1.1.1.1.1.1.1, ⟨hk.1.1.1.1.1.1.1.2.1, ⟨hk.1.1.1.1.1.1.1.2.2.1, ⟨hk.1.1.1.1.1.1.1.2.2.2.1, ⟨hk.1.1.1.1.1.1.1.2.2.2.2.1, ⟨hk.1.1.1.1.1.1.1.2.2.2.2.2.1, ⟨hk.1.1.1.1.1.1.1.2.2.2.2.2.2.1, ⟨hk.1.1.1.1.1.1.1.2.2.2.2.2.2.2.1, ⟨hk.1.1.1.1.1.1.1.2.2.2.2.2.2.2.2.1, ⟨hk.1.1.1.1.1.1.1.2.2.2.2.2.2.2.2.2.1, ⟨hk.1.1.1.1.1.1.1.2.2.2.2.2.2.2.2.2.2.1, ⟨hk.1.1.1.1.1.1.1.2.2.2.2.2.2.2.2.2.2.2, hk.1.1.1.1.1.1.2⟩⟩⟩⟩⟩⟩⟩⟩⟩⟩⟩⟩⟩⟩⟩⟩⟩⟩)), (by refine RU ?_; exact Kd.R_mono HO_371000.out (fun _ hk => ⟨hk.1.1.1.1.1.2, ⟨hk.1.1.1.1.2, ⟨hk.1.1.1.2, ⟨hk.1.1.2, ⟨hk.1.2, ⟨hk.2, ⟨hk.1.1.1.1.1.1.1, ⟨hk.1.1.1.1.1.1.2.1, ⟨hk.1.1.1.1.1.1.2.2.1, ⟨hk.1.1.1.1.1.1.2.2.2.1, hk.1.1.1.1.1.1.2.2.2.2⟩⟩⟩⟩⟩⟩⟩⟩⟩⟩)), (by refine RU ?_; exact Kd.R_mono HO_371001.out (fun _ hk => ⟨hk.1.1.1.1.1.2, ⟨hk.1.1.1.1.2, ⟨hk.1.1.1.2, ⟨hk.1.1.2, ⟨hk.1.2, ⟨hk.2, ⟨hk.1.1.1.1.1.1.1, ⟨hk.1.1.1.1.1.1.2.1, ⟨hk.1.1.1.1.1.1.2.2.1, ⟨hk.1.1.1.1.1.1.2.2.2.1, hk.1.1.1.1.1.1.2.2.2.2⟩⟩⟩⟩⟩⟩⟩⟩⟩⟩)), (by refine RU ?_; exact Kd.R_mono HO_378000.out (fun _ hk => ⟨hk.1.1.1.1.1.2, ⟨hk.1.1.1.1.2, ⟨hk.1.1.1.2, ⟨hk.1.1.2, ⟨hk.1.2, ⟨hk.2, ⟨hk.1.1.1.1.1.1.1, ⟨hk.1.1.1.1.1.1.2.1, ⟨hk.1.1.1.1.1.1.2.2.1, ⟨hk.1.1.1.1.1.1.2.2.2.1, hk.1.1.1.1.1.1.2.2.2.2⟩⟩⟩⟩⟩⟩⟩⟩⟩⟩)), (by refine RU ?_; exact Kd.R_mono HO_378001.out (fun _ hk => ⟨hk.1.1.1.1.1.2, ⟨hk.1.1.1.1.2, ⟨hk.1.1.1.2, ⟨hk.1.1.2, ⟨hk.1.2, ⟨hk.2, ⟨hk.1.1.1.1.1.1.1, ⟨hk.1.1.1.1.1.1.2.1, ⟨hk.1.1.1.1.1.1.2.2.1, ⟨hk.1.1.1.1.1.1.2.2.2.1, hk.1.1.1.1.1.1.2.2.2.2⟩⟩⟩⟩⟩⟩⟩⟩⟩⟩)), (by refine RU ?_; exact Kd.R_mono HO_386000.out (fun _ hk => ⟨hk.1.1.1.1.1.2, ⟨hk.1.1.1.1.2, ⟨hk.1.1.1.2, ⟨hk.1.1.2, ⟨hk.1.2, ⟨hk.2, ⟨hk.1.1.1.1.1.1.1, ⟨hk.1.1.1.1.1.1.2.1, ⟨hk.1.1.1.1.1.1.2.2.1, ⟨hk.1.1.1.1.1.1.2.2.2.1, hk.1.1.1.1.1.1.2.2.2.2⟩⟩⟩⟩⟩⟩⟩⟩⟩⟩)), (by refine RU ?_; exact Kd.R_mono HO_386001.out (fun _ hk => ⟨hk.1.1.1.1.1.2, ⟨hk.1.1.1.1.2, ⟨hk.1.1.1.2, ⟨hk.1.1.2, ⟨hk.1.2, ⟨hk.2, ⟨hk.1.1.1.1.1.1.1, ⟨hk.1.1.1.1.1.1.2.1, ⟨hk.1.1.1.1.1.1.2.2.1, ⟨hk.1.1.1.1.1.1.2.2.2.1, hk.1.1.1.1.1.1.2.2.2.2⟩⟩⟩⟩⟩⟩⟩⟩⟩⟩)), (kU BK340.out), (kU BK341.out), (kU BK363.out), (kU BK370.out), (kU BK377.out), (kU BK385.out), (kU BK431.out), GW431.out, GE431.out, NB340_431.out, NB431_340.out, NB341_431.out, NB431_341.out, NB363_431.out, NB431_363.out, NB370_431.out, NB431_370.out, NB377_431.out, NB431_377.out, NB385_431.out, NB431_385.out, (bS7 HB.out GE340.out GE341.out GE363.out GE370.out GE377.out GE385.out GE431.out)⟩)
             rintro ⟨v413, v416, v419, v422, v425, v428, gb431⟩ w168 ⟨hS_, h0_, h1_, h2_, h3_, h4_, h5_, h6_, h7_, h8_, h9_, h10_, h11_, h12_, h13_, h14_, h15_, h16_, h17_, h18_, h19_, h20_, h21_, h22_, h23_, h24_, h25_, h26_, h27_, h28_, h29_, h30_, h31_, h32_, h33_, h34_, h35_⟩
             have n0_ : Aside0 (Kd.R (Kd.int .i64) 3 w168 w.heap.size (fun k_ => some k_ ≠ (v416 : Value).ownBlock ∧ some k_ ≠ (v419 : Value).ownBlock ∧ some k_ ≠ (v422 : Value).ownBlock ∧ some k_ ≠ (v425 : Value).ownBlock ∧ some k_ ≠ (v428 : Value).ownBlock ∧ some k_ ≠ (.slice Ao51 t402.length co51 : Value).ownBlock ∧ some k_ ≠ (.slice Ao56 t403.length co56 : Value).ownBlock ∧ some k_ ≠ (.slice Ao61 t405.length co61 : Value).ownBlock ∧ some k_ ≠ (.slice Ao67 t406.length co67 : Value).ownBlock ∧ some k_ ≠ (.slice Ao71 t378.length co71 : Value).ownBlock ∧ some k_ ≠ (.slice Ao78 t381.length co78 : Value).ownBlock) v413 t412) := ⟨h0_⟩
             have n1_ : Aside0 (Kd.R (Kd.int .i64) 3 w168 w.heap.size (fun k_ => some k_ ≠ (v413 : Value).ownBlock ∧ some k_ ≠ (v419 : Value).ownBlock ∧ some k_ ≠ (v422 : Value).ownBlock ∧ some k_ ≠ (v425 : Value).ownBlock ∧ some k_ ≠ (v428 : Value).ownBlock ∧ some k_ ≠ (.slice Ao51 t402.length co51 : Value).ownBlock ∧ some k_ ≠ (.slice Ao56 t403.length co56 : Value).ownBlock ∧ some k_ ≠ (.slice Ao61 t405.length co61 : Value).ownBlock ∧ some k_ ≠ (.slice Ao67 t406.length co67 : Value).ownBlock ∧ some k_ ≠ (.slice Ao71 t378.length co71 : Value).ownBlock ∧ some k_ ≠ (.slice Ao78 t381.length co78 : Value).ownBlock) v416 t415) := ⟨h1_⟩
             have n2_ : Aside0 (Kd.R (Kd.int .i64) 3 w168 w.heap.size (fun k_ => some k_ ≠ (v413 : Value).ownBlock ∧ some k_ ≠ (v416 : Value).ownBlock ∧ some k_ ≠ (v422 : Value).ownBlock ∧ some k_ ≠ (v425 : Value).ownBlock ∧ some k_ ≠ (v428 : Value).ownBlock ∧ some k_ ≠ (.slice Ao51 t402.length co51 : Value).ownBlock ∧ some k_ ≠ (.slice Ao56 t403.length co56 : Value).ownBlock ∧ some k_ ≠ (.slice Ao61 t405.length co61 : Value).ownBlock ∧ some k_ ≠ (.slice Ao67 t406.length co67 : Value).ownBlock ∧ some k_ ≠ (.slice Ao71 t378.length co71 : Value).ownBlock ∧ some k_ ≠ (.slice Ao78 t381.length co78 : Value).ownBlock) v419 t418) := ⟨h2_⟩
             have n3_ : Aside0 (Kd.R (Kd.int .i64) 3 w168 w.heap.size (fun k_ => some k_ ≠ (v413 : Value).ownBlock ∧ some k_ ≠ (v416 : Value).ownBlock ∧ some k_ ≠ (v419 : Value).ownBlock ∧ some k_ ≠ (v425 : Value).ownBlock ∧ some k_ ≠ (v428 : Value).ownBlock ∧ some k_ ≠ (.slice Ao51 t402.length co51 : Value).ownBlock ∧ some k_ ≠ (.slice Ao56 t403.length co56 : Value).ownBlock ∧ some k_ ≠ (.slice Ao61 t405.length co61 : Value).ownBlock ∧ some k_ ≠ (.slice Ao67 t406.length co67 : Value).ownBlock ∧ some k_ ≠ (.slice Ao71 t378.length co71 : Value).ownBlock ∧ some k_ ≠ (.slice Ao78 t381.length co78 : Value).ownBlock) v422 t421) := ⟨h3_⟩
             have n4_ : Aside0 (Kd.R (Kd.int .i64) 3 w168 w.heap.size (fun k_ => some k_ ≠ (v413 : Value).ownBlock ∧ some k_ ≠ (v416 : Value).ownBlock ∧ some k_ ≠ (v419 : Value).ownBlock ∧ some k_ ≠ (v422 : Value).ownBlock ∧ some k_ ≠ (v428 : Value).ownBlock ∧ some k_ ≠ (.slice Ao51 t402.length co51 : Value).ownBlock ∧ some k_ ≠ (.slice Ao56 t403.length co56 : Value).ownBlock ∧ some k_ ≠ (.slice Ao61 t405.length co61 : Value).ownBlock ∧ some k_ ≠ (.slice Ao67 t406.length co67 : Value).ownBlock ∧ some k_ ≠ (.slice Ao71 t378.length co71 : Value).ownBlock ∧ some k_ ≠ (.slice Ao78 t381.length co78 : Value).ownBlock) v425 t424) := ⟨h4_⟩
             have n5_ : Aside0 (Kd.R (Kd.int .i64) 3 w168 w.heap.size (fun k_ => some k_ ≠ (v413 : Value).ownBlock ∧ some k_ ≠ (v416 : Value).ownBlock ∧ some k_ ≠ (v419 : Value).ownBlock ∧ some k_ ≠ (v422 : Value).ownBlock ∧ some k_ ≠ (v425 : Value).ownBlock ∧ some k_ ≠ (.slice Ao51 t402.length co51 : Value).ownBlock ∧ some k_ ≠ (.slice Ao56 t403.length co56 : Value).ownBlock ∧ some k_ ≠ (.slice Ao61 t405.length co61 : Value).ownBlock ∧ some k_ ≠ (.slice Ao67 t406.length co67 : Value).ownBlock ∧ some k_ ≠ (.slice Ao71 t378.length co71 : Value).ownBlock ∧ some k_ ≠ (.slice Ao78 t381.length co78 : Value).ownBlock) v428 t427) := ⟨h5_⟩
             have n6_ : Aside0 (Kd.V (Kd.int .i64) 3 w168 w.heap.size (fun k_ => some k_ ≠ (v413 : Value).ownBlock ∧ some k_ ≠ (v416 : Value).ownBlock ∧ some k_ ≠ (v419 : Value).ownBlock ∧ some k_ ≠ (v422 : Value).ownBlock ∧ some k_ ≠ (v425 : Value).ownBlock ∧ some k_ ≠ (v428 : Value).ownBlock ∧ some k_ ≠ (.slice Ao51 t402.length co51 : Value).ownBlock ∧ some k_ ≠ (.slice Ao56 t403.length co56 : Value).ownBlock ∧ some k_ ≠ (.slice Ao61 t405.length co61 : Value).ownBlock ∧ some k_ ≠ (.slice Ao67 t406.length co67 : Value).ownBlock ∧ some k_ ≠ (.slice Ao71 t378.length co71 : Value).ownBlock ∧ some k_ ≠ (.slice Ao78 t381.length co78 : Value).ownBlock ∧ k_ ≠ gb340 ∧ k_ ≠ gb341 ∧ k_ ≠ gb363 ∧ k_ ≠ gb370 ∧ k_ ≠ gb377 ∧ k_ ≠ gb385 ∧ k_ ≠ gb431) (.slice Ao43 t356.length co43) t356) := ⟨h6_⟩
             have n7_ : Aside0 (Kd.V (Kd.int .i64) 3 w168 w.heap.size (fun k_ => some k_ ≠ (v413 : Value).ownBlock ∧ some k_ ≠ (v416 : Value).ownBlock ∧ some k_ ≠ (v419 : Value).ownBlock ∧ some k_ ≠ (v422 : Value).ownBlock ∧ some k_ ≠ (v425 : Value).ownBlock ∧ some k_ ≠ (v428 : Value).ownBlock ∧ some k_ ≠ (.slice Ao51 t402.length co51 : Value).ownBlock ∧ some k_ ≠ (.slice Ao56 t403.length co56 : Value).ownBlock ∧ some k_ ≠ (.slice Ao61 t405.length co61 : Value).ownBlock ∧ some k_ ≠ (.slice Ao67 t406.length co67 : Value).ownBlock ∧ some k_ ≠ (.slice Ao71 t378.length co71 : Value).ownBlock ∧ some k_ ≠ (.slice Ao78 t381.length co78 : Value).ownBlock ∧ k_ ≠ gb340 ∧ k_ ≠ gb341 ∧ k_ ≠ gb363 ∧ k_ ≠ gb370 ∧ k_ ≠ gb377 ∧ k_ ≠ gb385 ∧ k_ ≠ gb431) (.slice Ao45 t359.length co45) t359) := ⟨h7_⟩
             have n8_ : Aside0 (Kd.R (Kd.int .i64) 3 w168 w.heap.size (fun k_ => some k_ ≠ (v413 : Value).ownBlock ∧ some k_ ≠ (v416 : Value).ownBlock ∧ some k_ ≠ (v419 : Value).ownBlock ∧ some k_ ≠ (v422 : Value).ownBlock ∧ some k_ ≠ (v425 : Value).ownBlock ∧ some k_ ≠ (v428 : Value).ownBlock ∧ some k_ ≠ (.slice Ao56 t403.length co56 : Value).ownBlock ∧ some k_ ≠ (.slice Ao61 t405.length co61 : Value).ownBlock ∧ some k_ ≠ (.slice Ao67 t406.length co67 : Value).ownBlock ∧ some k_ ≠ (.slice Ao71 t378.length co71 : Value).ownBlock ∧ some k_ ≠ (.slice Ao78 t381.length co78 : Value).ownBlock) (.slice Ao51 t402.length co51) t402) := ⟨h8_⟩
             have n9_ : Aside0 (Kd.R (Kd.int .i64) 3 w168 w.heap.size (fun k_ => some k_ ≠ (v413 : Value).ownBlock ∧ some k_ ≠ (v416 : Value).ownBlock ∧ some k_ ≠ (v419 : Value).ownBlock ∧ some k_ ≠ (v422 : Value).ownBlock ∧ some k_ ≠ (v425 : Value).ownBlock ∧ some k_ ≠ (v428 : Value).ownBlock ∧ some k_ ≠ (.slice Ao51 t402.length co51 : Value).ownBlock ∧ some k_ ≠ (.slice Ao61 t405.length co61 : Value).ownBlock ∧ some k_ ≠ (.slice Ao67 t406.length co67 : Value).ownBlock ∧ some k_ ≠ (.slice Ao71 t378.length co71 : Value).ownBlock ∧ some k_ ≠ (.slice Ao78 t381.length co78 : Value).ownBlock) (.slice Ao56 t403.length co56) t403) := ⟨h9_⟩
             have n10_ : Aside0 (Kd.R (Kd.int .i64) 3 w168 w.heap.size (fun k_ => some k_ ≠ (v413 : Value).ownBlock ∧ some k_ ≠ (v416 : Value).ownBlock ∧ some k_ ≠ (v419 : Value).ownBlock ∧ some k_ ≠ (v422 : Value).ownBlock ∧ some k_ ≠ (v425 : Value).ownBlock ∧ some k_ ≠ (v428 : Value).ownBlock ∧ some k_ ≠ (.slice Ao51 t402.length co51 : Value).ownBlock ∧ some k_ ≠ (.slice Ao56 t403.length co56 : Value).ownBlock ∧ some k_ ≠ (.slice Ao67 t406.length co67 : Value).ownBlock ∧ some k_ ≠ (.slice Ao71 t378.length co71 : Value).ownBlock ∧ some k_ ≠ (.slice Ao78 t381.length co78 : Value).ownBlock) (.slice Ao61 t405.length co61) t405) := ⟨h10_⟩
             have n11_ : Aside0 (Kd.R (Kd.int .i64) 3 w168 w.heap.size (fun k_ => some k_ ≠ (v413 : Value).ownBlock ∧ some k_ ≠ (v416 : Value).ownBlock ∧ some k_ ≠ (v419 : Value).ownBlock ∧ some k_ ≠ (v422 : Value).ownBlock ∧ some k_ ≠ (v425 : Value).ownBlock ∧ some k_ ≠ (v428 : Value).ownBlock ∧ some k_ ≠ (.slice Ao51 t402.length co51 : Value).ownBlock ∧ some k_ ≠ (.slice Ao56 t403.length co56 : Value).ownBlock ∧ some k_ ≠ (.slice Ao61 t405.length co61 : Value).ownBlock ∧ some k_ ≠ (.slice Ao71 t378.length co71 : Value).ownBlock ∧ some k_ ≠ (.slice Ao78 t381.length co78 : Value).ownBlock) (.slice Ao67 t406.length co67) t406) := ⟨h11_⟩
             have n12_ : Aside0 (Kd.R (Kd.int .i64) 3 w168 w.heap.size (fun k_ => some k_ ≠ (v413 : Value).ownBlock ∧ some k_ ≠ (v416 : Value).ownBlock ∧ some k_ ≠ (v419 : Value).ownBlock ∧ some k_ ≠ (v422 : Value).ownBlock ∧ some k_ ≠ (v425 : Value).ownBlock ∧ some k_ ≠ (v428 : Value).ownBlock ∧ some k_ ≠ (.slice Ao51 t402.length co51 : Value).ownBlock ∧ some k_ ≠ (.slice Ao56 t403.length co56 : Value).ownBlock ∧ some k_ ≠ (.slice Ao61 t405.length co61 : Value).ownBlock ∧ some k_ ≠ (.slice Ao67 t406.length co67 : Value).ownBlock ∧ some k_ ≠ (.slice Ao78 t381.length co78 : Value).ownBlock) (.slice Ao71 t378.length co71) t409) := ⟨h12_⟩
             have n13_ : Aside0 (Kd.R (Kd.int .i64) 3 w168 w.heap.size (fun k_ => some k_ ≠ (v413 : Value).ownBlock ∧ some k_ ≠ (v416 : Value).ownBlock ∧ some k_ ≠ (v419 : Value).ownBlock ∧ some k_ ≠ (v422 : Value).ownBlock ∧ some k_ ≠ (v425 : Value).ownBlock ∧ some k_ ≠ (v428 : Value).ownBlock ∧ some k_ ≠ (.slice Ao51 t402.length co51 : Value).ownBlock ∧ some k_ ≠ (.slice Ao56 t403.length co56 : Value).ownBlock ∧ some k_ ≠ (.slice Ao61 t405.length co61 : Value).ownBlock ∧ some k_ ≠ (.slice Ao67 t406.length co67 : Value).ownBlock ∧ some k_ ≠ (.slice Ao71 t378.length co71 : Value).ownBlock) (.slice Ao78 t381.length co78) t410) := ⟨h13_⟩
             have n14_ : Aside0 (w168.heap[gb340]? = some (.cells #[.slice A0_0 l0_0.length c0_0, .slice A0_1 l0_1.length c0_1] 24 (0, 0))) := ⟨h14_⟩
             have n15_ : Aside0 (w168.heap[gb341]? = some (.cells #[.slice A1_0 l1_0.length c1_0, .slice A1_1 l1_1.length c1_1] 24 (0, 0))) := ⟨h15_⟩
             have n16_ : Aside0 (w168.heap[gb363]? = some (.cells #[.slice Ao43 t356.length co43, .slice Ao45 t359.length co45] 26 (0, 0))) := ⟨h16_⟩
             have n17_ : Aside0 (w168.heap[gb370]? = some (.cells #[.slice Ao51 t402.length co51, .slice Ao56 t403.length co56] 26 (0, 0))) := ⟨h17_⟩
             have n18_ : Aside0 (w168.heap[gb377]? = some (.cells #[.slice Ao61 t405.length co61, .slice Ao67 t406.length co67] 26 (0, 0))) := ⟨h18_⟩
             have n19_ : Aside0 (w168.heap[gb385]? = some (.cells #[.slice Ao71 t378.length co71, .slice Ao78 t381.length co78] 26 (0, 0))) := ⟨h19_⟩
             have n20_ : Aside0 (w168.heap[gb431]? = some (.cells #[.slice none 0 0, .slice none 0 0] 26 (0, 0))) := ⟨h20_⟩
             have n21_ : Aside0 (w.heap.size ≤ gb431) := ⟨h21_⟩
             have n22_ : Aside0 (w.heap.size ≤ gb431) := ⟨h22_⟩
             have n23_ : Aside0 (gb340 ≠ gb431) := ⟨h23_⟩
             have n24_ : Aside0 (gb431 ≠ gb340) := ⟨h24_⟩
             have n25_ : Aside0 (gb341 ≠ gb431) := ⟨h25_⟩
             have n26_ : Aside0 (gb431 ≠ gb341) := ⟨h26_⟩
             have n27_ : Aside0 (gb363 ≠ gb431) := ⟨h27_⟩
             have n28_ : Aside0 (gb431 ≠ gb363) := ⟨h28_⟩
             have n29_ : Aside0 (gb370 ≠ gb431) := ⟨h29_⟩
             have n30_ : Aside0 (gb431 ≠ gb370) := ⟨h30_⟩
             have n31_ : Aside0 (gb377 ≠ gb431) := ⟨h31_⟩
             have n32_ : Aside0 (gb431 ≠ gb377) := ⟨h32_⟩
             have n33_ : Aside0 (gb385 ≠ gb431) := ⟨h33_⟩
             have n34_ : Aside0 (gb431 ≠ gb385) := ⟨h34_⟩
             have n35_ : Aside0 (Below w.heap.size w w168) := ⟨h35_⟩
             clear HO_364000 HO_364001 HO_371000 HO_371001 HO_378000 HO_378001 HO_386000 HO_386001 BK340 BK341 BK363 BK370 BK377 BK385 HB
             clear h0_ h1_ h2_ h3_ h4_ h5_ h6_ h7_ h8_ h9_ h10_ h11_ h12_ h13_ h14_ h15_ h16_ h17_ h18_ h19_ h20_ h21_ h22_ h23_ h24_ h25_ h26_ h27_ h28_ h29_ h30_ h31_ h32_ h33_ h34_ h35_
             have HO414 := n0_
             have HO417 := n1_
             have HO420 := n2_
             have HO423 := n3_
             have HO426 := n4_
             have HO429 := n5_
             have HO_364000 := n6_
             have HO_364001 := n7_
             have HO_371000 := n8_
             have HO_371001 := n9_
             have HO_378000 := n10_
             have HO_378001 := n11_
             have HO_386000 := n12_
             have HO_386001 := n13_
             have BK340 := n14_
             have BK341 := n15_
             have BK363 := n16_
             have BK370 := n17_
             have BK377 := n18_
             have BK385 := n19_
             have BK431 := n20_
             have GW431 := n21_
             have GE431 := n22_
             have NB340_431 := n23_
             have NB431_340 := n24_
             have NB341_431 := n25_
             have NB431_341 := n26_
             have NB363_431 := n27_
             have NB431_363 := n28_
             have NB370_431 := n29_
             have NB431_370 := n30_
             have NB377_431 := n31_
             have NB431_377 := n32_
             have NB385_431 := n33_
             have NB431_385 := n34_
             have HB := n35_
             clear n0_ n1_ n2_ n3_ n4_ n5_ n6_ n7_ n8_ n9_ n10_ n11_ n12_ n13_ n14_ n15_ n16_ n17_ n18_ n19_ n20_ n21_ n22_ n23_ n24_ n25_ n26_ n27_ n28_ n29_ n30_ n31_ n32_ n33_ n34_ n35_
             have hHeld : w168.cell? ⟨gb340, 0, none⟩ = some (.slice A0_0 l0_0.length c0_0) ∧ w168.cell? ⟨gb340, 1, none⟩ = some (.slice A0_1 l0_1.length c0_1) ∧ w168.cell? ⟨gb341, 0, none⟩ = some (.slice A1_0 l1_0.length c1_0) ∧ w168.cell? ⟨gb341, 1, none⟩ = some (.slice A1_1 l1_1.length c1_1) := hS_
             obtain ⟨Ao169, co169, eo169⟩ := Kd.R_slice HO426.out
             (first | subst eo169 | (injection eo169 with f1_ f2_ f3_; have f4_ := f1_.symm; have f5_ := f3_.symm; clear f1_ f2_ f3_; subst f4_; subst f5_))
             obtain ⟨Ao171, co171, eo171⟩ := Kd.R_slice HO429.out
             (first | subst eo171 | (injection eo171 with f1_ f2_ f3_; have f4_ := f1_.symm; have f5_ := f3_.symm; clear f1_ f2_ f3_; subst f4_; subst f5_))
             refine norm_ (a' := ?_) ?_ ?_
             rotate_left
             ·
              simp only [putAll, Act.put, List.setIfInBounds_toArray, List.set_cons_zero, List.set_cons_succ]
              rfl
             refine one_ (i := 9) (N := none) #[true, true, true, true, true, true, true, true, true, true, false] rfl rfl (one_of HT_.out (by kernel_rfl)) (by decide) (fun K hK => ?_)
             have hs170 : w168.cell? ⟨gb431, 0, none⟩ = some (.slice none 0 0) := (blk_cell BK431.out 0).trans rfl
             have hfs170 := blk_frozen BK431.out 0
             have hns170_0 := NB340_431.out
             have hns170_1 := NB341_431.out
             have hns170_2 := NB363_431.out
             have hns170_3 := NB370_431.out
             have hns170_4 := NB377_431.out
             have hns170_5 := NB385_431.out
             have hms170_0 := NB431_340.out
             have hms170_1 := NB431_341.out
             have hms170_2 := NB431_363.out
             have hms170_3 := NB431_370.out
             have hms170_4 := NB431_377.out
             have hms170_5 := NB431_385.out
             have hs172 : w168.cell? ⟨gb431, 1, none⟩ = some (.slice none 0 0) := (blk_cell BK431.out 1).trans rfl
             have hfs172 := blk_frozen BK431.out 1
             have hns172_0 := NB340_431.out
             have hns172_1 := NB341_431.out
             have hns172_2 := NB363_431.out
             have hns172_3 := NB370_431.out
             have hns172_4 := NB377_431.out
             have hns172_5 := NB385_431.out
             have hms172_0 := NB431_340.out
             have hms172_1 := NB431_341.out
             have hms172_2 := NB431_363.out
             have hms172_3 := NB431_370.out
             have hms172_4 := NB431_377.out
             have hms172_5 := NB431_385.out
             refine skip_ (w1 := ?_) (by rfl) rfl ?_ ?_
             rotate_left
             ·
              go_simp
              rfl
             refine hK.out _ _ ⟨((cell_far (p := ⟨gb431, _, none⟩) NB340_431.out _).trans (((cell_far (p := ⟨gb431, _, none⟩) NB340_431.out _).trans (hHeld.1)))), ((cell_far (p := ⟨gb431, _, none⟩) NB340_431.out _).trans (((cell_far (p := ⟨gb431, _, none⟩) NB340_431.out _).trans (hHeld.2.1)))), ((cell_far (p := ⟨gb431, _, none⟩) NB341_431.out _).trans (((cell_far (p := ⟨gb431, _, none⟩) NB341_431.out _).trans (hHeld.2.2.1)))), ((cell_far (p := ⟨gb431, _, none⟩) NB341_431.out _).trans (((cell_far (p := ⟨gb431, _, none⟩) NB341_431.out _).trans (hHeld.2.2.2))))⟩ (fun hHeld => ?_)
             clear hK K
             refine pure_ (i := 10) (N := some 16) (v := ?_) (a' := ?_) #[true, true, true, true, true, true, true, true, true, true, true] rfl rfl (any_of HT_.out (by kernel_rfl)) (fun _ _ _ h => h) (Or.inl ⟨by rfl, ?_⟩) ?_ ?_
             rotate_left
             ·
              intro w'
              go_simp
              with_reducible rfl
             rotate_left
             ·
              simp only [Act.put, List.setIfInBounds_toArray, List.set_cons_zero, List.set_cons_succ, i64_w, i32_w]
              rfl
             refine done_ (done_of HT_.out (by kernel_rfl)) ?_
             go_upto_region 32 with (fail)
             go_cut [110] (fun v110 wc => ∃ (kq : Nat) (x110_148 : Bool), v110 = .bool x110_148 ∧ Aside0 (laws_FnExactJoin.j2 kq t408 x110_148 t409 t410 = some r) ∧ Aside0 (kq ≤ kj101) ∧ Aside0 (Kd.V (Kd.int .i64) 3 wc w.heap.size (fun k_ => some k_ ≠ ((.slice Ao51 t402.length co51) : Value).ownBlock ∧ some k_ ≠ ((.slice Ao56 t403.length co56) : Value).ownBlock ∧ some k_ ≠ ((.slice Ao61 t405.length co61) : Value).ownBlock ∧ some k_ ≠ ((.slice Ao67 t406.length co67) : Value).ownBlock ∧ some k_ ≠ ((.slice Ao71 t378.length co71) : Value).ownBlock ∧ some k_ ≠ ((.slice Ao78 t381.length co78) : Value).ownBlock ∧ some k_ ≠ ((.slice Ao169 t424.length co169) : Value).ownBlock ∧ some k_ ≠ ((.slice Ao171 t427.length co171) : Value).ownBlock ∧ k_ ≠ gb340 ∧ k_ ≠ gb341 ∧ k_ ≠ gb363 ∧ k_ ≠ gb370 ∧ k_ ≠ gb377 ∧ k_ ≠ gb385 ∧ k_ ≠ gb431) (.slice Ao43 t356.length co43) t356) ∧ Aside0 (Kd.V (Kd.int .i64) 3 wc w.heap.size (fun k_ => some k_ ≠ ((.slice Ao51 t402.length co51) : Value).ownBlock ∧ some k_ ≠ ((.slice Ao56 t403.length co56) : Value).ownBlock ∧ some k_ ≠ ((.slice Ao61 t405.length co61) : Value).ownBlock ∧ some k_ ≠ ((.slice Ao67 t406.length co67) : Value).ownBlock ∧ some k_ ≠ ((.slice Ao71 t378.length co71) : Value).ownBlock ∧ some k_ ≠ ((.slice Ao78 t381.length co78) : Value).ownBlock ∧ some k_ ≠ ((.slice Ao169 t424.length co169) : Value).ownBlock ∧ some k_ ≠ ((.slice Ao171 t427.length co171) : Value).ownBlock ∧ k_ ≠ gb340 ∧ k_ ≠ gb341 ∧ k_ ≠ gb363 ∧ k_ ≠ gb370 ∧ k_ ≠ gb377 ∧ k_ ≠ gb385 ∧ k_ ≠ gb431) (.slice Ao45 t359.length co45) t359) ∧ Aside0 (Kd.R (Kd.int .i64) 3 wc w.heap.size (fun k_ => some k_ ≠ ((.slice Ao56 t403.length co56) : Value).ownBlock ∧ some k_ ≠ ((.slice Ao61 t405.length co61) : Value).ownBlock ∧ some k_ ≠ ((.slice Ao67 t406.length co67) : Value).ownBlock ∧ some k_ ≠ ((.slice Ao71 t378.length co71) : Value).ownBlock ∧ some k_ ≠ ((.slice Ao78 t381.length co78) : Value).ownBlock ∧ some k_ ≠ ((.slice Ao169 t424.length co169) : Value).ownBlock ∧ some k_ ≠ ((.slice Ao171 t427.length co171) : Value).ownBlock) (.slice Ao51 t402.length co51) t402) ∧ Aside0 (Kd.R (Kd.int .i64) 3 wc w.heap.size (fun k_ => some k_ ≠ ((.slice Ao51 t402.length co51) : Value).ownBlock ∧ some k_ ≠ ((.slice Ao61 t405.length co61) : Value).ownBlock ∧ some k_ ≠ ((.slice Ao67 t406.length co67) : Value).ownBlock ∧ some k_ ≠ ((.slice Ao71 t378.length co71) : Value).ownBlock ∧ some k_ ≠ ((.slice Ao78 t381.length co78) : Value).ownBlock ∧ some k_ ≠ ((.slice Ao169 t424.length co169) : Value).ownBlock ∧ some k_ ≠ ((.slice Ao171 t427.length co171) : Value).ownBlock) (.slice Ao56 t403.length co56) t403) ∧ Aside0 (Kd.R (Kd.int .i64) 3 wc w.heap.size (fun k_ => some k_ ≠ ((.slice Ao51 t402.length co51) : Value).ownBlock ∧ some k_ ≠ ((.slice Ao56 t403.length co56) : Value).ownBlock ∧ some k_ ≠ ((.slice Ao67 t406.length co67) : Value).ownBlock ∧ some k_ ≠ ((.slice Ao71 t378.length co71) : Value).ownBlock ∧ some k_ ≠ ((.slice Ao78 t381.length co78) : Value).ownBlock ∧ some k_ ≠ ((.slice Ao169 t424.length co169) : Value).ownBlock ∧ some k_ ≠ ((.slice Ao171 t427.length co171) : Value).ownBlock) (.slice Ao61 t405.length co61) t405) ∧ Aside0 (Kd.R (Kd.int .i64) 3 wc w.heap.size (fun k_ => some k_ ≠ ((.slice Ao51 t402.length co51) : Value).ownBlock ∧ some k_ ≠ ((.slice Ao56 t403.length co56) : Value).ownBlock ∧ some k_ ≠ ((.slice Ao61 t405.length co61) : Value).ownBlock ∧ some k_ ≠ ((.slice Ao71 t378.length co71) : Value).ownBlock ∧ some k_ ≠ ((.slice Ao78 t381.length co78) : Value).ownBlock ∧ some k_ ≠ ((.slice Ao169 t424.length co169) : Value).ownBlock ∧ some k_ ≠ ((.slice Ao171 t427.length co171) : Value).ownBlock) (.slice Ao67 t406.length co67) t406) ∧ Aside0 (Kd.R (Kd.int .i64) 3 wc w.heap.size (fun k_ => some k_ ≠ ((.slice Ao51 t402.length co51) : Value).ownBlock ∧ some k_ ≠ ((.slice Ao56 t403.length co56) : Value).ownBlock ∧ some k_ ≠ ((.slice Ao61 t405.length co61) : Value).ownBlock ∧ some k_ ≠ ((.slice Ao67 t406.length co67) : Value).ownBlock ∧ some k_ ≠ ((.slice Ao78 t381.length co78) : Value).ownBlock ∧ some k_ ≠ ((.slice Ao169 t424.length co169) : Value).ownBlock ∧ some k_ ≠ ((.slice Ao171 t427.length co171) : Value).ownBlock) (.slice Ao71 t378.length co71) t409) ∧ Aside0 (Kd.R (Kd.int .i64) 3 wc w.heap.size (fun k_ => some k_ ≠ ((.slice Ao51 t402.length co51) : Value).ownBlock ∧ some k_ ≠ ((.slice Ao56 t403.length co56) : Value).ownBlock ∧ some k_ ≠ ((.slice Ao61 t405.length co61) : Value).ownBlock ∧ some k_ ≠ ((.slice Ao67 t406.length co67) : Value).ownBlock ∧ some k_ ≠ ((.slice Ao71 t378.length co71) : Value).ownBlock ∧ some k_ ≠ ((.slice Ao169 t424.length co169) : Value).ownBlock ∧ some k_ ≠ ((.slice Ao171 t427.length co171) : Value).ownBlock) (.slice Ao78 t381.length co78) t410) ∧ Aside0 (Kd.R (Kd.int .i64) 3 wc w.heap.size (fun k_ => some k_ ≠ ((.slice Ao51 t402.length co51) : Value).ownBlock ∧ some k_ ≠ ((.slice Ao56 t403.length co56) : Value).ownBlock ∧ some k_ ≠ ((.slice Ao61 t405.length co61) : Value).ownBlock ∧ some k_ ≠ ((.slice Ao67 t406.length co67) : Value).ownBlock ∧ some k_ ≠ ((.slice Ao71 t378.length co71) : Value).ownBlock ∧ some k_ ≠ ((.slice Ao78 t381.length co78) : Value).ownBlock ∧ some k_ ≠ ((.slice Ao171 t427.length co171) : Value).ownBlock) (.slice Ao169 t424.length co169) t424) ∧ Aside0 (Kd.R (Kd.int .i64) 3 wc w.heap.size (fun k_ => some k_ ≠ ((.slice Ao51 t402.length co51) : Value).ownBlock ∧ some k_ ≠ ((.slice Ao56 t403.length co56) : Value).ownBlock ∧ some k_ ≠ ((.slice Ao61 t405.length co61) : Value).ownBlock ∧ some k_ ≠ ((.slice Ao67 t406.length co67) : Value).ownBlock ∧ some k_ ≠ ((.slice Ao71 t378.length co71) : Value).ownBlock ∧ some k_ ≠ ((.slice Ao78 t381.length co78) : Value).ownBlock ∧ some k_ ≠ ((.slice Ao169 t424.length co169) : Value).ownBlock) (.slice Ao171 t427.length co171) t427) ∧ Aside0 (wc.heap[gb340]? = some (.cells #[(.slice A0_0 l0_0.length c0_0), (.slice A0_1 l0_1.length c0_1)] 24 (0, 0))) ∧ Aside0 (wc.heap[gb341]? = some (.cells #[(.slice A1_0 l1_0.length c1_0), (.slice A1_1 l1_1.length c1_1)] 24 (0, 0))) ∧ Aside0 (wc.heap[gb363]? = some (.cells #[(.slice Ao43 t356.length co43), (.slice Ao45 t359.length co45)] 26 (0, 0))) ∧ Aside0 (wc.heap[gb370]? = some (.cells #[(.slice Ao51 t402.length co51), (.slice Ao56 t403.length co56)] 26 (0, 0))) ∧ Aside0 (wc.heap[gb377]? = some (.cells #[(.slice Ao61 t405.length co61), (.slice Ao67 t406.length co67)] 26 (0, 0))) ∧ Aside0 (wc.heap[gb385]? = some (.cells #[(.slice Ao71 t378.length co71), (.slice Ao78 t381.length co78)] 26 (0, 0))) ∧ Aside0 (wc.heap[gb431]? = some (.cells #[(.slice Ao169 t424.length co169), (.slice Ao171 t427.length co171)] 26 (0, 0))) ∧ Aside0 (Below w.heap.size w wc))
             case first =>
              have H := HC149.out
              clear HC149
              replace H := Option.bind_eq_some_iff.mp H
              obtain ⟨t432, A1730, H⟩ := H
              replace H : (if t432 = true then (laws_FnExactJoin.j2 kj101 t408 (t430 != t362) t409 t410) else (laws_FnExactJoin.j2 kj101 t408 true t409 t410)) = some r := H
              have A173 := Aside0.mk A1730
              clear A1730
              by_cases c174 : t432 = true
              ·
               subst c174
               have H1 : (laws_FnExactJoin.j2 kj101 t408 (t430 != t362) t409 t410) = some r := by rw [if_pos rfl] at H; exact H
               clear H
               have H := H1
               clear H1
               have H' := Aside0.mk H
               clear H
               have hnb175 := NB431_340.out
               have hnc175 := NB340_431.out
               have hnb176 := NB431_341.out
               have hnc176 := NB341_431.out
               have hnb177 := NB431_363.out
               have hnc177 := NB363_431.out
               have hnb178 := NB431_370.out
               have hnc178 := NB370_431.out
               have hnb179 := NB431_377.out
               have hnc179 := NB377_431.out
               have hnb180 := NB431_385.out
               have hnc180 := NB385_431.out
               have hcz181_0 : w168.cell? ⟨gb431, 0, none⟩ = some (.slice none 0 0) := (blk_cell BK431.out 0).trans rfl
               have hcz181_1 : w168.cell? ⟨gb431, 1, none⟩ = some (.slice none 0 0) := (blk_cell BK431.out 1).trans rfl
               have hfz181_0 := blk_frozen BK431.out 0
               have hfz181_1 := blk_frozen BK431.out 1
               have hnb182 := NB363_340.out
               have hnc182 := NB340_363.out
               have hnb183 := NB363_341.out
               have hnc183 := NB341_363.out
               have hnb184 := NB363_370.out
               have hnc184 := NB370_363.out
               have hnb185 := NB363_377.out
               have hnc185 := NB377_363.out
               have hnb186 := NB363_385.out
               have hnc186 := NB385_363.out
               have hcz187_0 : w168.cell? ⟨gb363, 0, none⟩ = some (.slice Ao43 t356.length co43) := (blk_cell BK363.out 0).trans rfl
               have hcz187_1 : w168.cell? ⟨gb363, 1, none⟩ = some (.slice Ao45 t359.length co45) := (blk_cell BK363.out 1).trans rfl
               have hfz187_0 := blk_frozen BK363.out 0
               have hfz187_1 := blk_frozen BK363.out 1
               go_wp2_with (first | ((with_reducible refine gate_callee (f := 19) rfl ?_); refine goesL_ (some 104) rfl rfl Try.func19 (by kernel_rfl) rfl #[.agg #[.slice Ao169 t424.length co169, .slice Ao171 t427.length co171], .agg #[.slice Ao43 t356.length co43, .slice Ao45 t359.length co45]] rfl lU ?_; (with_reducible refine (laws_eqArray.calls kj101 _ _ t424 _ _ t427 _ _ t356 _ _ t359 true _ ?side1 ?side2 ?side3 ?side4 ?side5 ?side6 ?side7 ?side8 A173.out).mono ?_); (case side1 => refine (Kd.R_reads' (e := 3) (base := w.heap.size) (ok := fun k_ => (some k_ ≠ (v413 : Value).ownBlock ∧ (some k_ ≠ (v416 : Value).ownBlock ∧ (some k_ ≠ (v419 : Value).ownBlock ∧ (some k_ ≠ (v422 : Value).ownBlock ∧ (some k_ ≠ (.slice Ao171 t427.length co171 : Value).ownBlock ∧ (some k_ ≠ (.slice Ao51 t402.length co51 : Value).ownBlock ∧ (some k_ ≠ (.slice Ao56 t403.length co56 : Value).ownBlock ∧ (some k_ ≠ (.slice Ao61 t405.length co61 : Value).ownBlock ∧ (some k_ ≠ (.slice Ao67 t406.length co67 : Value).ownBlock ∧ (some k_ ≠ (.slice Ao71 t378.length co71 : Value).ownBlock ∧ some k_ ≠ (.slice Ao78 t381.length co78 : Value).ownBlock))))))))))) (n := t424.length) (c := co169) ?_).2.2; exact (by refine RU ?_; exact (far2 HO426.out BK431.out))); (case side2 => exact (Kd.R_reads' HO426.out).2.1); (case side3 => refine (Kd.R_reads' (e := 3) (base := w.heap.size) (ok := fun k_ => (some k_ ≠ (v413 : Value).ownBlock ∧ (some k_ ≠ (v416 : Value).ownBlock ∧ (some k_ ≠ (v419 : Value).ownBlock ∧ (some k_ ≠ (v422 : Value).ownBlock ∧ (some k_ ≠ (.slice Ao169 t424.length co169 : Value).ownBlock ∧ (some k_ ≠ (.slice Ao51 t402.length co51 : Value).ownBlock ∧ (some k_ ≠ (.slice Ao56 t403.length co56 : Value).ownBlock ∧ (some k_ ≠ (.slice Ao61 t405.length co61 : Value).ownBlock ∧ (some k_ ≠ (.slice Ao67 t406.length co67 : Value).ownBlock ∧ (some k_ ≠ (.slice Ao71 t378.length co71 : Value).ownBlock ∧ some k_ ≠ (.slice Ao78 t381.length co78 : Value).ownBlock))))))))))) (n := t427.length) (c := co171) ?_).2.2; exact (by refine RU ?_; exact (far2 HO429.out BK431.out))); (case side4 => exact (Kd.R_reads' HO429.out).2.1); (case side5 => refine (Kd.V_reads' (e := 3) (base := w.heap.size) (ok := fun k_ => (some k_ ≠ (v413 : Value).ownBlock ∧ (some k_ ≠ (v416 : Value).ownBlock ∧ (some k_ ≠ (v419 : Value).ownBlock ∧ (some k_ ≠ (v422 : Value).ownBlock ∧ (some k_ ≠ (.slice Ao169 t424.length co169 : Value).ownBlock ∧ (some k_ ≠ (.slice Ao171 t427.length co171 : Value).ownBlock ∧ (some k_ ≠ (.slice Ao51 t402.length co51 : Value).ownBlock ∧ (some k_ ≠ (.slice Ao56 t403.length co56 : Value).ownBlock ∧ (some k_ ≠ (.slice Ao61 t405.length co61 : Value).ownBlock ∧ (some k_ ≠ (.slice Ao67 t406.length co67 : Value).ownBlock ∧ (some k_ ≠ (.slice Ao71 t378.length co71 : Value).ownBlock ∧ (some k_ ≠ (.slice Ao78 t381.length co78 : Value).ownBlock ∧ (k_ ≠ gb340 ∧ (k_ ≠ gb341 ∧ (k_ ≠ gb363 ∧ (k_ ≠ gb370 ∧ (k_ ≠ gb377 ∧ (k_ ≠ gb385 ∧ k_ ≠ gb431))))))))))))))))))) (n := t356.length) (c := co43) ?_).2.2; exact (by refine VU ?_; exact (Kd.V_mono (Kd.V_far (p := ⟨gb431, 1, none⟩) (Kd.V_far (p := ⟨gb431, 0, none⟩) (Kd.V_mono HO_364000.out (fun k_ hk => (⟨hk, hk.2.2.2.2.2.2.2.2.2.2.2.2.2.2.2.2.2.2⟩ : _ ∧ k_ ≠ gb431))) (fun _ hk => hk.2) (.slice Ao169 t424.length co169)) (fun _ hk => hk.2) (.slice Ao171 t427.length co171)) (fun _ h_ => h_.1)))); (case side6 => exact (Kd.V_reads' HO_364000.out).2.1); (case side7 => refine (Kd.V_reads' (e := 3) (base := w.heap.size) (ok := fun k_ => (some k_ ≠ (v413 : Value).ownBlock ∧ (some k_ ≠ (v416 : Value).ownBlock ∧ (some k_ ≠ (v419 : Value).ownBlock ∧ (some k_ ≠ (v422 : Value).ownBlock ∧ (some k_ ≠ (.slice Ao169 t424.length co169 : Value).ownBlock ∧ (some k_ ≠ (.slice Ao171 t427.length co171 : Value).ownBlock ∧ (some k_ ≠ (.slice Ao51 t402.length co51 : Value).ownBlock ∧ (some k_ ≠ (.slice Ao56 t403.length co56 : Value).ownBlock ∧ (some k_ ≠ (.slice Ao61 t405.length co61 : Value).ownBlock ∧ (some k_ ≠ (.slice Ao67 t406.length co67 : Value).ownBlock ∧ (some k_ ≠ (.slice Ao71 t378.length co71 : Value).ownBlock ∧ (some k_ ≠ (.slice Ao78 t381.length co78 : Value).ownBlock ∧ (k_ ≠ gb340 ∧ (k_ ≠ gb341 ∧ (k_ ≠ gb363 ∧ (k_ ≠ gb370 ∧ (k_ ≠ gb377 ∧ (k_ ≠ gb385 ∧ k_ ≠ gb431))))))))))))))))))) (n := t359.length) (c := co45) ?_).2.2; exact (by refine VU ?_; exact (Kd.V_mono (Kd.V_far (p := ⟨gb431, 1, none⟩) (Kd.V_far (p := ⟨gb431, 0, none⟩) (Kd.V_mono HO_364001.out (fun k_ hk => (⟨hk, hk.2.2.2.2.2.2.2.2.2.2.2.2.2.2.2.2.2.2⟩ : _ ∧ k_ ≠ gb431))) (fun _ hk => hk.2) (.slice Ao169 t424.length co169)) (fun _ hk => hk.2) (.slice Ao171 t427.length co171)) (fun _ h_ => h_.1)))); (case side8 => exact (Kd.V_reads' HO_364001.out).2.1); rintro e w188 ⟨rfl, hb⟩; refine ⟨_, rfl, ?_⟩; replace HO_364000 := Aside0.mk (Kd.V_below (by refine VU ?_; exact (Kd.V_mono (Kd.V_far (p := ⟨gb431, 1, none⟩) (Kd.V_far (p := ⟨gb431, 0, none⟩) (Kd.V_mono HO_364000.out (fun k_ hk => (⟨hk, hk.2.2.2.2.2.2.2.2.2.2.2.2.2.2.2.2.2.2⟩ : _ ∧ k_ ≠ gb431))) (fun _ hk => hk.2) (.slice Ao169 t424.length co169)) (fun _ hk => hk.2) (.slice Ao171 t427.length co171)) (fun _ h_ => h_.1))) hb); replace HO_364001 := Aside0.mk (Kd.V_below (by refine VU ?_; exact (Kd.V_mono (Kd.V_far (p := ⟨gb431, 1, none⟩) (Kd.V_far (p := ⟨gb431, 0, none⟩) (Kd.V_mono HO_364001.out (fun k_ hk => (⟨hk, hk.2.2.2.2.2.2.2.2.2.2.2.2.2.2.2.2.2.2⟩ : _ ∧ k_ ≠ gb431))) (fun _ hk => hk.2) (.slice Ao169 t424.length co169)) (fun _ hk => hk.2) (.slice Ao171 t427.length co171)) (fun _ h_ => h_.1))) hb); replace HO_371000 := Aside0.mk (Kd.R_below (by refine RU ?_; exact (far2 HO_371000.out BK431.out)) hb); replace HO_371001 := Aside0.mk (Kd.R_below (by refine RU ?_; exact (far2 HO_371001.out BK431.out)) hb); replace HO_378000 := Aside0.mk (Kd.R_below (by refine RU ?_; exact (far2 HO_378000.out BK431.out)) hb); replace HO_378001 := Aside0.mk (Kd.R_below (by refine RU ?_; exact (far2 HO_378001.out BK431.out)) hb); replace HO_386000 := Aside0.mk (Kd.R_below (by refine RU ?_; exact (far2 HO_386000.out BK431.out)) hb); replace HO_386001 := Aside0.mk (Kd.R_below (by refine RU ?_; exact (far2 HO_386001.out BK431.out)) hb); replace HO414 := Aside0.mk (Kd.R_below (by refine RU ?_; exact (far2 HO414.out BK431.out)) hb); replace HO417 := Aside0.mk (Kd.R_below (by refine RU ?_; exact (far2 HO417.out BK431.out)) hb); replace HO420 := Aside0.mk (Kd.R_below (by refine RU ?_; exact (far2 HO420.out BK431.out)) hb); replace HO423 := Aside0.mk (Kd.R_below (by refine RU ?_; exact (far2 HO423.out BK431.out)) hb); replace HO426 := Aside0.mk (Kd.R_below (by refine RU ?_; exact (far2 HO426.out BK431.out)) hb); replace HO429 := Aside0.mk (Kd.R_below (by refine RU ?_; exact (far2 HO429.out BK431.out)) hb); replace BK340 := Aside0.mk (blk_below (g := gb340) (o := .cells #[.slice A0_0 l0_0.length c0_0, .slice A0_1 l0_1.length c0_1] 24 (0, 0)) (by refine kU ?_; refine blk_far ?_ NB340_431.out _; refine kU ?_; refine blk_far ?_ NB340_431.out _; refine kU ?_; exact BK340.out) hb); replace BK341 := Aside0.mk (blk_below (g := gb341) (o := .cells #[.slice A1_0 l1_0.length c1_0, .slice A1_1 l1_1.length c1_1] 24 (0, 0)) (by refine kU ?_; refine blk_far ?_ NB341_431.out _; refine kU ?_; refine blk_far ?_ NB341_431.out _; refine kU ?_; exact BK341.out) hb); replace BK363 := Aside0.mk (blk_below (g := gb363) (o := .cells #[.slice Ao43 t356.length co43, .slice Ao45 t359.length co45] 26 (0, 0)) (by refine kU ?_; refine blk_far ?_ NB363_431.out _; refine kU ?_; refine blk_far ?_ NB363_431.out _; refine kU ?_; exact BK363.out) hb); replace BK370 := Aside0.mk (blk_below (g := gb370) (o := .cells #[.slice Ao51 t402.length co51, .slice Ao56 t403.length co56] 26 (0, 0)) (by refine kU ?_; refine blk_far ?_ NB370_431.out _; refine kU ?_; refine blk_far ?_ NB370_431.out _; refine kU ?_; exact BK370.out) hb); replace BK377 := Aside0.mk (blk_below (g := gb377) (o := .cells #[.slice Ao61 t405.length co61, .slice Ao67 t406.length co67] 26 (0, 0)) (by refine kU ?_; refine blk_far ?_ NB377_431.out _; refine kU ?_; refine blk_far ?_ NB377_431.out _; refine kU ?_; exact BK377.out) hb); replace BK385 := Aside0.mk (blk_below (g := gb385) (o := .cells #[.slice Ao71 t378.length co71, .slice Ao78 t381.length co78] 26 (0, 0)) (by refine kU ?_; refine blk_far ?_ NB385_431.out _; refine kU ?_; refine blk_far ?_ NB385_431.out _; refine kU ?_; exact BK385.out) hb); replace BK431 := Aside0.mk (blk_below (g := gb431) (o := .cells #[.slice Ao169 t424.length co169, .slice Ao171 t427.length co171] 26 (0, 0)) (by refine kU ?_; refine blk_put (cs := #[.slice Ao169 t424.length co169, .slice none 0 0]) ?_ 1 _ rfl; refine kU ?_; refine blk_put (cs := #[.slice none 0 0, .slice none 0 0]) ?_ 0 _ rfl; refine kU ?_; exact BK431.out) hb); replace HB := Aside0.mk (below_step (bS7 HB.out GE340.out GE341.out GE363.out GE370.out GE377.out GE385.out GE431.out) hb); (try clear hb); (try clear hb2); (try clear hk); (try clear hi)))
               go_meet
               case rel => exact ⟨_, ((t430 != t362)), (by first | rfl | (simp; done) | (simp [*]; done)), H', ⟨by have := HJ24.out; have := HJ101.out; first | omega | exact Nat.le_refl _⟩, ⟨by (try simp only [hl371000_101]); (try simp only [hl371001_101]); (try simp only [hl378000_101]); (try simp only [hl378001_101]); refine VU ?_; exact Kd.V_mono HO_364000.out (fun _ hk => ⟨hk.2.2.2.2.2.2.1, ⟨hk.2.2.2.2.2.2.2.1, ⟨hk.2.2.2.2.2.2.2.2.1, ⟨hk.2.2.2.2.2.2.2.2.2.1, ⟨hk.2.2.2.2.2.2.2.2.2.2.1, ⟨hk.2.2.2.2.2.2.2.2.2.2.2.1, ⟨hk.2.2.2.2.1, ⟨hk.2.2.2.2.2.1, ⟨hk.2.2.2.2.2.2.2.2.2.2.2.2.1, ⟨hk.2.2.2.2.2.2.2.2.2.2.2.2.2.1, ⟨hk.2.2.2.2.2.2.2.2.2.2.2.2.2.2.1, ⟨hk.2.2.2.2.2.2.2.2.2.2.2.2.2.2.2.1, ⟨hk.2.2.2.2.2.2.2.2.2.2.2.2.2.2.2.2.1, ⟨hk.2.2.2.2.2.2.2.2.2.2.2.2.2.2.2.2.2.1, hk.2.2.2.2.2.2.2.2.2.2.2.2.2.2.2.2.2.2⟩⟩⟩⟩⟩⟩⟩⟩⟩⟩⟩⟩⟩⟩)⟩, ⟨by (try simp only [hl371000_101]); (try simp only [hl371001_101]); (try simp only [hl378000_101]); (try simp only [hl378001_101]); refine VU ?_; exact Kd.V_mono HO_364001.out (fun _ hk => ⟨hk.2.2.2.2.2.2.1, ⟨hk.2.2.2.2.2.2.2.1, ⟨hk.2.2.2.2.2.2.2.2.1, ⟨hk.2.2.2.2.2.2.2.2.2.1, ⟨hk.2.2.2.2.2.2.2.2.2.2.1, ⟨hk.2.2.2.2.2.2.2.2.2.2.2.1, ⟨hk.2.2.2.2.1, ⟨hk.2.2.2.2.2.1, ⟨hk.2.2.2.2.2.2.2.2.2.2.2.2.1, ⟨hk.2.2.2.2.2.2.2.2.2.2.2.2.2.1, ⟨hk.2.2.2.2.2.2.2.2.2.2.2.2.2.2.1, ⟨hk.2.2.2.2.2.2.2.2.2.2.2.2.2.2.2.1, ⟨hk.2.2.2.2.2.2.2.2.2.2.2.2.2.2.2.2.1, ⟨hk.2.2.2.2.2.2.2.2.2.2.2.2.2.2.2.2.2.1, hk.2.2.2.2.2.2.2.2.2.2.2.2.2.2.2.2.2.2⟩⟩⟩⟩⟩⟩⟩⟩⟩⟩⟩⟩⟩⟩)⟩, ⟨by (try simp only [hl371000_101]); (try simp only [hl371001_101]); (try simp only [hl378000_101]); (try simp only [hl378001_101]); refine RU ?_; exact Kd.R_mono HO_371000.out (fun _ hk => ⟨hk.2.2.2.2.2.2.1, ⟨hk.2.2.2.2.2.2.2.1, ⟨hk.2.2.2.2.2.2.2.2.1, ⟨hk.2.2.2.2.2.2.2.2.2.1, ⟨hk.2.2.2.2.2.2.2.2.2.2, ⟨hk.2.2.2.2.1, hk.2.2.2.2.2.1⟩⟩⟩⟩⟩⟩)⟩, ⟨by (try simp only [hl371000_101]); (try simp only [hl371001_101]); (try simp only [hl378000_101]); (try simp only [hl378001_101]); refine RU ?_; exact Kd.R_mono HO_371001.out (fun _ hk => ⟨hk.2.2.2.2.2.2.1, ⟨hk.2.2.2.2.2.2.2.1, ⟨hk.2.2.2.2.2.2.2.2.1, ⟨hk.2.2.2.2.2.2.2.2.2.1, ⟨hk.2.2.2.2.2.2.2.2.2.2, ⟨hk.2.2.2.2.1, hk.2.2.2.2.2.1⟩⟩⟩⟩⟩⟩)⟩, ⟨by (try simp only [hl371000_101]); (try simp only [hl371001_101]); (try simp only [hl378000_101]); (try simp only [hl378001_101]); refine RU ?_; exact Kd.R_mono HO_378000.out (fun _ hk => ⟨hk.2.2.2.2.2.2.1, ⟨hk.2.2.2.2.2.2.2.1, ⟨hk.2.2.2.2.2.2.2.2.1, ⟨hk.2.2.2.2.2.2.2.2.2.1, ⟨hk.2.2.2.2.2.2.2.2.2.2, ⟨hk.2.2.2.2.1, hk.2.2.2.2.2.1⟩⟩⟩⟩⟩⟩)⟩, ⟨by (try simp only [hl371000_101]); (try simp only [hl371001_101]); (try simp only [hl378000_101]); (try simp only [hl378001_101]); refine RU ?_; exact Kd.R_mono HO_378001.out (fun _ hk => ⟨hk.2.2.2.2.2.2.1, ⟨hk.2.2.2.2.2.2.2.1, ⟨hk.2.2.2.2.2.2.2.2.1, ⟨hk.2.2.2.2.2.2.2.2.2.1, ⟨hk.2.2.2.2.2.2.2.2.2.2, ⟨hk.2.2.2.2.1, hk.2.2.2.2.2.1⟩⟩⟩⟩⟩⟩)⟩, ⟨by (try simp only [hl371000_101]); (try simp only [hl371001_101]); (try simp only [hl378000_101]); (try simp only [hl378001_101]); refine RU ?_; exact Kd.R_mono HO_386000.out (fun _ hk => ⟨hk.2.2.2.2.2.2.1, ⟨hk.2.2.2.2.2.2.2.1, ⟨hk.2.2.2.2.2.2.2.2.1, ⟨hk.2.2.2.2.2.2.2.2.2.1, ⟨hk.2.2.2.2.2.2.2.2.2.2, ⟨hk.2.2.2.2.1, hk.2.2.2.2.2.1⟩⟩⟩⟩⟩⟩)⟩, ⟨by (try simp only [hl371000_101]); (try simp only [hl371001_101]); (try simp only [hl378000_101]); (try simp only [hl378001_101]); refine RU ?_; exact Kd.R_mono HO_386001.out (fun _ hk => ⟨hk.2.2.2.2.2.2.1, ⟨hk.2.2.2.2.2.2.2.1, ⟨hk.2.2.2.2.2.2.2.2.1, ⟨hk.2.2.2.2.2.2.2.2.2.1, ⟨hk.2.2.2.2.2.2.2.2.2.2, ⟨hk.2.2.2.2.1, hk.2.2.2.2.2.1⟩⟩⟩⟩⟩⟩)⟩, ⟨by (try simp only [hl371000_101]); (try simp only [hl371001_101]); (try simp only [hl378000_101]); (try simp only [hl378001_101]); refine RU ?_; exact Kd.R_mono HO426.out (fun _ hk => ⟨hk.2.2.2.2.2.1, ⟨hk.2.2.2.2.2.2.1, ⟨hk.2.2.2.2.2.2.2.1, ⟨hk.2.2.2.2.2.2.2.2.1, ⟨hk.2.2.2.2.2.2.2.2.2.1, ⟨hk.2.2.2.2.2.2.2.2.2.2, hk.2.2.2.2.1⟩⟩⟩⟩⟩⟩)⟩, ⟨by (try simp only [hl371000_101]); (try simp only [hl371001_101]); (try simp only [hl378000_101]); (try simp only [hl378001_101]); refine RU ?_; exact Kd.R_mono HO429.out (fun _ hk => ⟨hk.2.2.2.2.2.1, ⟨hk.2.2.2.2.2.2.1, ⟨hk.2.2.2.2.2.2.2.1, ⟨hk.2.2.2.2.2.2.2.2.1, ⟨hk.2.2.2.2.2.2.2.2.2.1, ⟨hk.2.2.2.2.2.2.2.2.2.2, hk.2.2.2.2.1⟩⟩⟩⟩⟩⟩)⟩, ⟨by (try simp only [hl371000_101]); (try simp only [hl371001_101]); (try simp only [hl378000_101]); (try simp only [hl378001_101]); refine kU ?_; exact BK340.out⟩, ⟨by (try simp only [hl371000_101]); (try simp only [hl371001_101]); (try simp only [hl378000_101]); (try simp only [hl378001_101]); refine kU ?_; exact BK341.out⟩, ⟨by (try simp only [hl371000_101]); (try simp only [hl371001_101]); (try simp only [hl378000_101]); (try simp only [hl378001_101]); refine kU ?_; exact BK363.out⟩, ⟨by (try simp only [hl371000_101]); (try simp only [hl371001_101]); (try simp only [hl378000_101]); (try simp only [hl378001_101]); refine kU ?_; exact BK370.out⟩, ⟨by (try simp only [hl371000_101]); (try simp only [hl371001_101]); (try simp only [hl378000_101]); (try simp only [hl378001_101]); refine kU ?_; exact BK377.out⟩, ⟨by (try simp only [hl371000_101]); (try simp only [hl371001_101]); (try simp only [hl378000_101]); (try simp only [hl378001_101]); refine kU ?_; exact BK385.out⟩, ⟨by (try simp only [hl371000_101]); (try simp only [hl371001_101]); (try simp only [hl378000_101]); (try simp only [hl378001_101]); refine kU ?_; exact BK431.out⟩, ⟨by exact bS7 HB.out GE340.out GE341.out GE363.out GE370.out GE377.out GE385.out GE431.out⟩⟩
              ·
               replace c174 := Bool.eq_false_iff.mpr c174
               subst c174
               have H1 : (laws_FnExactJoin.j2 kj101 t408 true t409 t410) = some r := by rw [if_neg (show ¬ (false = true) by decide)] at H; exact H
               clear H
               have H := H1
               clear H1
               have hz_ : ∀ kz, laws_FnExactJoin.j2 kz t408 true t409 t410 = some r → r = false := by intro kz hz; cases kz with | zero => exact absurd hz (by simp [laws_FnExactJoin.j2]) | succ kz => simp only [laws_FnExactJoin.j2] at hz; first | (rw [if_pos rfl] at hz; exact (Option.some.inj hz).symm) | (simp at hz; exact hz.symm) | (simp at hz; exact hz)
               exact absurd (HT.out.symm.trans (hz_ _ H)) (by decide)
             case rest =>
              clear HC149
              try clear c1
              try clear p2
              try clear c5
              try clear c17
              try clear c18
              try clear c19
              try clear c51
              try clear c174
              try clear c175
              try clear c176
              try clear c177
              try clear c178
              try clear c179
              try clear c180
              try clear c182
              try clear c183
              try clear c184
              try clear c185
              try clear c186
              try clear hcz181_0
              try clear hcz181_1
              try clear hcz187_0
              try clear hcz187_1
              try clear hfz181_0
              try clear hfz181_1
              try clear hfz187_0
              try clear hfz187_1
              obtain ⟨kq, x110_148, rfl, HA, HJ148, HO_364000, HO_364001, HO_371000, HO_371001, HO_378000, HO_378001, HO_386000, HO_386001, HO_432000, HO_432001, BK340, BK341, BK363, BK370, BK377, BK385, BK431, HB⟩ := hcut
              have hl386000_148 := (Kd.R_reads' HO_386000.out).1
              rw [hl386000_148] at HO_386000
              (try simp only [hl386000_148])
              (try simp only [hl386000_148] at BK340)
              (try simp only [hl386000_148] at BK341)
              (try simp only [hl386000_148] at BK363)
              (try simp only [hl386000_148] at BK370)
              (try simp only [hl386000_148] at BK377)
              (try simp only [hl386000_148] at BK385)
              (try simp only [hl386000_148] at BK431)
              (try simp only [hl386000_148] at HO_364000)
              (try simp only [hl386000_148] at HO_364001)
              (try simp only [hl386000_148] at HO_371000)
              (try simp only [hl386000_148] at HO_371001)
              (try simp only [hl386000_148] at HO_378000)
              (try simp only [hl386000_148] at HO_378001)
              (try simp only [hl386000_148] at HO_386001)
              (try simp only [hl386000_148] at HO_432000)
              (try simp only [hl386000_148] at HO_432001)
              have hl386001_148 := (Kd.R_reads' HO_386001.out).1
              rw [hl386001_148] at HO_386001
              (try simp only [hl386001_148])
              (try simp only [hl386001_148] at BK340)
              (try simp only [hl386001_148] at BK341)
              (try simp only [hl386001_148] at BK363)
              (try simp only [hl386001_148] at BK370)
              (try simp only [hl386001_148] at BK377)
              (try simp only [hl386001_148] at BK385)
              (try simp only [hl386001_148] at BK431)
              (try simp only [hl386001_148] at HO_364000)
              (try simp only [hl386001_148] at HO_364001)
              (try simp only [hl386001_148] at HO_371000)
              (try simp only [hl386001_148] at HO_371001)
              (try simp only [hl386001_148] at HO_378000)
              (try simp only [hl386001_148] at HO_378001)
              (try simp only [hl386001_148] at HO_386000)
              (try simp only [hl386001_148] at HO_432000)
              (try simp only [hl386001_148] at HO_432001)
              cases kq with
              | zero => exact absurd HA.out (by simp [laws_FnExactJoin.j2])
              | succ kj148 =>
               have H := HA.out
               clear HA
               simp only [laws_FnExactJoin.j2] at H
               by_cases c189 : x110_148 = true
               ·
                subst c189
                have H1 : (some false) = some r := by rw [if_pos rfl] at H; exact H
                clear H
                have H := H1
                clear H1
                obtain rfl := Option.some.inj H
                exact absurd HT.out (by decide)
               ·
                replace c189 := Bool.eq_false_iff.mpr c189
                subst c189
                have H1 : ((laws_heldArray.f kj148 t409 t410 1).bind fun t433 => (if t433 < 0 then (some false) else (if t433 = t408 then (some true) else (some false)))) = some r := by rw [if_neg (show ¬ (false = true) by decide)] at H; exact H
                clear H
                have H := H1
                clear H1
                replace H := Option.bind_eq_some_iff.mp H
                obtain ⟨t433, A1900, H⟩ := H
                replace H : (if t433 < 0 then (some false) else (if t433 = t408 then (some true) else (some false))) = some r := H
                have A190 := Aside0.mk A1900
                clear A1900
                by_cases c191 : t433 < 0
                ·
                 rw [if_pos c191] at H
                 have c191b0 : decide (t433 < 0) = true := decide_eq_true c191
                 clear c191
                 obtain rfl := Option.some.inj H
                 exact absurd HT.out (by decide)
                ·
                 rw [if_neg c191] at H
                 have c191b0 : decide (t433 < 0) = false := decide_eq_false c191
                 clear c191
                 by_cases c192 : t433 = t408
                 ·
                  rw [if_pos c192] at H
                  have c192b0 : (t433 == t408) = true := beq_iff_eq.mpr c192
                  have c192b1 : (t433 != t408) = false := bne_eq_false_iff_eq.mpr c192
                  clear c192
                  obtain rfl := Option.some.inj H
                  have hnb193 := NB385_340.out
                  have hnc193 := NB340_385.out
                  have hnb194 := NB385_341.out
                  have hnc194 := NB341_385.out
                  have hnb195 := NB385_363.out
                  have hnc195 := NB363_385.out
                  have hnb196 := NB385_370.out
                  have hnc196 := NB370_385.out
                  have hnb197 := NB385_377.out
                  have hnc197 := NB377_385.out
                  have hnb198 := NB385_431.out
                  have hnc198 := NB431_385.out
                  have hcz199_0 : wc.cell? ⟨gb385, 0, none⟩ = some (.slice Ao71 t409.length co71) := (blk_cell BK385.out 0).trans rfl
                  have hcz199_1 : wc.cell? ⟨gb385, 1, none⟩ = some (.slice Ao78 t410.length co78) := (blk_cell BK385.out 1).trans rfl
                  have hfz199_0 := blk_frozen BK385.out 0
                  have hfz199_1 := blk_frozen BK385.out 1
                  go_wp2_with (first | ((with_reducible refine gate_callee (f := 21) rfl ?_); refine goesL_ (some 113) rfl rfl Try.func21 (by kernel_rfl) rfl #[.agg #[.slice Ao71 t409.length co71, .slice Ao78 t410.length co78], .int .i64 1] rfl lU ?_; (with_reducible refine (laws_heldArray.calls kj148 _ _ t409 _ _ t410 1 t433 _ ?side1 ?side2 ?side3 ?side4 A190.out).mono ?_); (case side1 => exact cU (Kd.R_reads' HO_386000.out).2.2); (case side2 => exact (Kd.R_reads' HO_386000.out).2.1); (case side3 => exact cU (Kd.R_reads' HO_386001.out).2.2); (case side4 => exact (Kd.R_reads' HO_386001.out).2.1); rintro e w200 ⟨rfl, hb⟩; refine ⟨_, rfl, ?_⟩; replace HO_364000 := Aside0.mk (Kd.V_below (VU HO_364000.out) hb); replace HO_364001 := Aside0.mk (Kd.V_below (VU HO_364001.out) hb); replace HO_371000 := Aside0.mk (Kd.R_below (RU HO_371000.out) hb); replace HO_371001 := Aside0.mk (Kd.R_below (RU HO_371001.out) hb); replace HO_378000 := Aside0.mk (Kd.R_below (RU HO_378000.out) hb); replace HO_378001 := Aside0.mk (Kd.R_below (RU HO_378001.out) hb); replace HO_386000 := Aside0.mk (Kd.R_below (RU HO_386000.out) hb); replace HO_386001 := Aside0.mk (Kd.R_below (RU HO_386001.out) hb); replace HO_432000 := Aside0.mk (Kd.R_below (RU HO_432000.out) hb); replace HO_432001 := Aside0.mk (Kd.R_below (RU HO_432001.out) hb); replace BK340 := Aside0.mk (kB BK340.out hb); replace BK341 := Aside0.mk (kB BK341.out hb); replace BK363 := Aside0.mk (kB BK363.out hb); replace BK370 := Aside0.mk (kB BK370.out hb); replace BK377 := Aside0.mk (kB BK377.out hb); replace BK385 := Aside0.mk (kB BK385.out hb); replace BK431 := Aside0.mk (kB BK431.out hb); replace HB := Aside0.mk (below_step (bS7 HB.out GE340.out GE341.out GE363.out GE370.out GE377.out GE385.out GE431.out) hb); (try clear hb); (try clear hb2); (try clear hk); (try clear hi)))
                  go_ret
                  exact ⟨by first | rfl | (simp [errW_none, errW_some] <;> rfl) | (simp [*, errW_none, errW_some] <;> rfl), by exact bS7 HB.out GE340.out GE341.out GE363.out GE370.out GE377.out GE385.out GE431.out⟩
                 ·
                  rw [if_neg c192] at H
                  have c192b0 : (t433 == t408) = false := beq_eq_false_iff_ne.mpr c192
                  have c192b1 : (t433 != t408) = true := bne_iff_ne.mpr c192
                  obtain rfl := Option.some.inj H
                  exact absurd HT.out (by decide)
theorem laws_FnExactJoin.calls (k : Nat) (A0_0 : Option Addr) (c0_0 : Nat) (l0_0 : List Int) (A0_1 : Option Addr) (c0_1 : Nat) (l0_1 : List Int) (A1_0 : Option Addr) (c1_0 : Nat) (l1_0 : List Int) (A1_1 : Option Addr) (c1_1 : Nat) (l1_1 : List Int) (r : Bool) (w : World) (hr0_0 : Kd.C (Kd.int .i64) w A0_0 l0_0.length l0_0) (hc0_0 : l0_0.length ≤ c0_0) (hr0_1 : Kd.C (Kd.int .i64) w A0_1 l0_1.length l0_1) (hc0_1 : l0_1.length ≤ c0_1) (hr1_0 : Kd.C (Kd.int .i64) w A1_0 l1_0.length l1_0) (hc1_0 : l1_0.length ≤ c1_0) (hr1_1 : Kd.C (Kd.int .i64) w A1_1 l1_1.length l1_1) (hc1_1 : l1_1.length ≤ c1_1) (h : laws_FnExactJoin.f k l0_0 l0_1 l1_0 l1_1 = some r) (hT : r = true) :
    Calls Try.prog 12 #[.agg #[.slice A0_0 l0_0.length c0_0, .slice A0_1 l0_1.length c0_1], .agg #[.slice A1_0 l1_0.length c1_0, .slice A1_1 l1_1.length c1_1]] w fun e w' => e = .returned (.bool r) ∧ Below w.heap.size w w' := by
  exact (laws_FnExactJoin.part1.2 fun _ => laws_FnExactJoin.part2) k A0_0 c0_0 l0_0 A0_1 c0_1 l0_1 A1_0 c1_0 l1_0 A1_1 c1_1 l1_1 r w hr0_0 hc0_0 hr0_1 hc0_1 hr1_0 hc1_0 hr1_1 hc1_1 h hT
end Go.Proofs.Ytcnbajdnlkcjjaa.PFnExactJoin
