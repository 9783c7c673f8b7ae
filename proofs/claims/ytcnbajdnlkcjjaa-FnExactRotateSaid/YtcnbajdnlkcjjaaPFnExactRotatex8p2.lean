/- A law's walk, written in parts: this is part 2. It has no condition of its own. -/
import Derived.Test.YtcnbajdnlkcjjaaPFnExactRotatex8
namespace Go.Proofs.Ytcnbajdnlkcjjaa.PFnExactRotate
open Go.RowKit Go.Proofs.YtcnbajdnlkcjjaaW.PrintWords Go.Proofs.YtcnbajdnlkcjjaaW.PrintLast Go.Proofs.YtcnbajdnlkcjjaaW.PrintMore Go.Proofs.YtcnbajdnlkcjjaaQ
attribute [local go_sem] max2_int min2_int max_two min_two max_three min_three max_four min_four   -- for this text's walks alone
set_option linter.unusedVariables false
set_option linter.unusedSimpArgs false
set_option maxHeartbeats 8000000 in
set_option maxRecDepth 100000 in
theorem laws_FnExactRotate.part2 : laws_FnExactRotate.part1.1 := by
             intro k A0_0 c0_0 l0_0 A0_1 c0_1 l0_1 A1_0 c1_0 l1_0 A1_1 c1_1 l1_1 r w HT hu24 hu26 HR0_0 HC0_0 HR0_1 HC0_1 HR1_0 HC1_0 HR1_1 HC1_1 t310 A3 c4b0 t311 A10 c11b0 t312 t315 A19 t318 t321 A20 t324 t327 t330 A21 t332 t335 A22 t339 t342 A23 t346 t349 t352 A24 _ gb308 w26 GW308 GE308 gb309 w27 GW309 GE309 NB308_309 NB309_308 hnb28 hnc28 hcz29_0 hcz29_1 hfz29_0 hfz29_1 w30 hcz31_0 hcz31_1 hfz31_0 hfz31_1 w32 _ _ w33 _ v313 v316 v319 v322 gb331 w42 hS_ GW331 GE331 NB308_331 NB331_308 NB309_331 NB331_309 _ Ao43 co43 Ao45 co45 hs44 hfs44 hns44_0 hns44_1 hms44_0 hms44_1 hs46 hfs46 hns46_0 hns46_1 hms46_0 hms46_1 _ hnb47 hnc47 w49 gb338 w50 GW338 GE338 NB308_338 NB338_308 NB309_338 NB338_309 NB331_338 NB338_331 Ao51 co51 hnb52 hnc52 hnb53 hnc53 hnb54 hnc54 Ao56 co56 hnb57 hnc57 w59 gb345 w60 GW345 GE345 NB308_345 NB345_308 NB309_345 NB345_309 NB331_345 NB345_331 NB338_345 NB345_338 Ao61 co61 hnb62 hnc62 hnb63 hnc63 hnb64 hnc64 hnb65 hnc65 Ao67 co67 w69 gb353 w70 _ GW353 GE353 _ NB308_353 NB353_308 _ NB309_353 NB353_309 _ NB331_353 NB353_331 _ NB338_353 NB353_338 _ NB345_353 NB353_345 _ Ao71 co71 hnb72 hnc72 hnb73 hnc73 hnb74 hnc74 hnb75 hnc75 hnb76 hnc76 Ao78 co78 HO314 HO317 HO320 HO323 HO326 HO329 HO334 HO337 HO341 HO344 HO348 HO351 _ _ _ _ _ _ _ _ _ _ _ _ _ _ _ _ _ _ _ _ _ _ _ _ _ _ _ _ _ _ _ _ _ _ _ _ _ _ _ _ _ _ _ _ _ _ _ _ _ _ _ _ _ _ _ _ _ _ _ _ _ _ _ _ _ u82 _ _ _ _ _ _ _ _ _ _ _ _ _ _ _ _ _ _ _ _ _ _ _ _ _ _ _ _ _ _ _ _ _ _ _ _ kj24 HJ24 t355 t358 A94 A95 t362 t365 A97 A98 t369 t370 t371 A100 t372 t373 t374 A101 w103 _ w104 Ao105 co105 Ao106 co106 _ w107 _ w108 _ w109 Ao110 co110 Ao111 co111 _ w112 _ hnb113 hnc113 hnb114 hnc114 hnb115 hnc115 hnb116 hnc116 hnb117 hnc117 w119 hnb120 hnc120 hnb121 hnc121 hnb122 hnc122 hnb123 hnc123 w125 _ _ _ _ _ _ _ _ _ _ _ _ _ _ HO357 HO360 HO364 HO367 _ wc u17 u18 u19 u20 u21 u22 u23 u24 u25 u26 u27 u28 u29 u30 u31 u32 u33 u34 u35 u36 u37 u38 u39 u40 u41 u42 u43 u44 u45 u46 u47 u48 u49 u50 u51 u52 u53 u54 u55 u56 u57 u58 u59 u60 u61 u62 u63 u64 u65 u66 u67 u68 u69 u70 u71 u72 u73 u74 u75 u76 u77 u78 u79 u80 u81 u83 u84 u85 u86 u87 u88 u89 u90 u91 u92 u93 u94 u95 u96 u97 u98 u99 u100 u101 u102 u103 u104 u105 u106 u107 u108 u109 u110 u111 u112 u113 u114 u115 u116 u117 u118 hl339000_101 hl339001_101 hl346000_101 hl346001_101 kj101 HJ101 t376 t377 t378 A142 t379 A143 c144b0 c145b0 c145b1 t380 t383 A146 t386 t389 A147 t392 t395 t398 A148 HC149 hnb150 hnc150 hnb151 hnc151 hnb152 hnc152 hnb153 hnc153 hnb154 hnc154 hcz155_0 hcz155_1 hfz155_0 hfz155_1 w156 hcz157_0 hcz157_1 hfz157_0 hfz157_1 w158 _ _ HT_ HW_ w159 HO_332000 HO_332001 HO_339000 HO_339001 HO_346000 HO_346001 HO_354000 HO_354001 BK308 BK309 BK331 BK338 BK345 BK353 HB hHeld
             refine join_ (σ := Value × Value × Value × Value × Value × Value × Nat) 2 #[true, true, true, true, true, true, true, true, true, false, false] (fun s_ => [(96, .agg #[s_.1, s_.2.1]), (98, .agg #[s_.2.2.1, s_.2.2.2.1]), (99, .tuple #[.agg #[s_.2.2.2.2.1, s_.2.2.2.2.2.1], .int .i64 t398]), (15, .pointer (some ⟨s_.2.2.2.2.2.2, 0, none⟩)), (94, .tuple #[.agg #[s_.2.2.2.2.1, s_.2.2.2.2.2.1], .int .i64 t398]), (100, .agg #[s_.2.2.2.2.1, s_.2.2.2.2.2.1]), (101, .int .i64 t398)]) (fun s_ w' => (w'.cell? ⟨gb308, 0, none⟩ = some (.slice A0_0 l0_0.length c0_0) ∧ w'.cell? ⟨gb308, 1, none⟩ = some (.slice A0_1 l0_1.length c0_1) ∧ w'.cell? ⟨gb309, 0, none⟩ = some (.slice A1_0 l1_0.length c1_0) ∧ w'.cell? ⟨gb309, 1, none⟩ = some (.slice A1_1 l1_1.length c1_1)) ∧ (Kd.R (Kd.int .i64) 3 w' w.heap.size (fun k_ => some k_ ≠ (s_.2.1 : Value).ownBlock ∧ some k_ ≠ (s_.2.2.1 : Value).ownBlock ∧ some k_ ≠ (s_.2.2.2.1 : Value).ownBlock ∧ some k_ ≠ (s_.2.2.2.2.1 : Value).ownBlock ∧ some k_ ≠ (s_.2.2.2.2.2.1 : Value).ownBlock ∧ some k_ ≠ (.slice Ao43 t324.length co43 : Value).ownBlock ∧ some k_ ≠ (.slice Ao45 t327.length co45 : Value).ownBlock ∧ some k_ ≠ (.slice Ao51 t370.length co51 : Value).ownBlock ∧ some k_ ≠ (.slice Ao56 t371.length co56 : Value).ownBlock ∧ some k_ ≠ (.slice Ao61 t373.length co61 : Value).ownBlock ∧ some k_ ≠ (.slice Ao67 t374.length co67 : Value).ownBlock ∧ some k_ ≠ (.slice Ao71 t346.length co71 : Value).ownBlock ∧ some k_ ≠ (.slice Ao78 t349.length co78 : Value).ownBlock) s_.1 t380) ∧ (Kd.R (Kd.int .i64) 3 w' w.heap.size (fun k_ => some k_ ≠ (s_.1 : Value).ownBlock ∧ some k_ ≠ (s_.2.2.1 : Value).ownBlock ∧ some k_ ≠ (s_.2.2.2.1 : Value).ownBlock ∧ some k_ ≠ (s_.2.2.2.2.1 : Value).ownBlock ∧ some k_ ≠ (s_.2.2.2.2.2.1 : Value).ownBlock ∧ some k_ ≠ (.slice Ao43 t324.length co43 : Value).ownBlock ∧ some k_ ≠ (.slice Ao45 t327.length co45 : Value).ownBlock ∧ some k_ ≠ (.slice Ao51 t370.length co51 : Value).ownBlock ∧ some k_ ≠ (.slice Ao56 t371.length co56 : Value).ownBlock ∧ some k_ ≠ (.slice Ao61 t373.length co61 : Value).ownBlock ∧ some k_ ≠ (.slice Ao67 t374.length co67 : Value).ownBlock ∧ some k_ ≠ (.slice Ao71 t346.length co71 : Value).ownBlock ∧ some k_ ≠ (.slice Ao78 t349.length co78 : Value).ownBlock) s_.2.1 t383) ∧ (Kd.R (Kd.int .i64) 3 w' w.heap.size (fun k_ => some k_ ≠ (s_.1 : Value).ownBlock ∧ some k_ ≠ (s_.2.1 : Value).ownBlock ∧ some k_ ≠ (s_.2.2.2.1 : Value).ownBlock ∧ some k_ ≠ (s_.2.2.2.2.1 : Value).ownBlock ∧ some k_ ≠ (s_.2.2.2.2.2.1 : Value).ownBlock ∧ some k_ ≠ (.slice Ao43 t324.length co43 : Value).ownBlock ∧ some k_ ≠ (.slice Ao45 t327.length co45 : Value).ownBlock ∧ some k_ ≠ (.slice Ao51 t370.length co51 : Value).ownBlock ∧ some k_ ≠ (.slice Ao56 t371.length co56 : Value).ownBlock ∧ some k_ ≠ (.slice Ao61 t373.length co61 : Value).ownBlock ∧ some k_ ≠ (.slice Ao67 t374.length co67 : Value).ownBlock ∧ some k_ ≠ (.slice Ao71 t346.length co71 : Value).ownBlock ∧ some k_ ≠ (.slice Ao78 t349.length co78 : Value).ownBlock) s_.2.2.1 t386) ∧ (Kd.R (Kd.int .i64) 3 w' w.heap.size (fun k_ => some k_ ≠ (s_.1 : Value).ownBlock ∧ some k_ ≠ (s_.2.1 : Value).ownBlock ∧ some k_ ≠ (s_.2.2.1 : Value).ownBlock ∧ some k_ ≠ (s_.2.2.2.2.1 : Value).ownBlock ∧ some k_ ≠ (s_.2.2.2.2.2.1 : Value).ownBlock ∧ some k_ ≠ (.slice Ao43 t324.length co43 : Value).ownBlock ∧ some k_ ≠ (.slice Ao45 t327.length co45 : Value).ownBlock ∧ some k_ ≠ (.slice Ao51 t370.length co51 : Value).ownBlock ∧ some k_ ≠ (.slice Ao56 t371.length co56 : Value).ownBlock ∧ some k_ ≠ (.slice Ao61 t373.length co61 : Value).ownBlock ∧ some k_ ≠ (.slice Ao67 t374.length co67 : Value).ownBlock ∧ some k_ ≠ (.slice Ao71 t346.length co71 : Value).ownBlock ∧ some k_ ≠ (.slice Ao78 t349.length co78 : Value).ownBlock) s_.2.2.2.1 t389) ∧ (Kd.R (Kd.int .i64) 3 w' w.heap.size (fun k_ => some k_ ≠ (s_.1 : Value).ownBlock ∧ some k_ ≠ (s_.2.1 : Value).ownBlock ∧ some k_ ≠ (s_.2.2.1 : Value).ownBlock ∧ some k_ ≠ (s_.2.2.2.1 : Value).ownBlock ∧ some k_ ≠ (s_.2.2.2.2.2.1 : Value).ownBlock ∧ some k_ ≠ (.slice Ao43 t324.length co43 : Value).ownBlock ∧ some k_ ≠ (.slice Ao45 t327.length co45 : Value).ownBlock ∧ some k_ ≠ (.slice Ao51 t370.length co51 : Value).ownBlock ∧ some k_ ≠ (.slice Ao56 t371.length co56 : Value).ownBlock ∧ some k_ ≠ (.slice Ao61 t373.length co61 : Value).ownBlock ∧ some k_ ≠ (.slice Ao67 t374.length co67 : Value).ownBlock ∧ some k_ ≠ (.slice Ao71 t346.length co71 : Value).ownBlock ∧ some k_ ≠ (.slice Ao78 t349.length co78 : Value).ownBlock) s_.2.2.2.2.1 t392) ∧ (Kd.R (Kd.int .i64) 3 w' w.heap.size (fun k_ => some k_ ≠ (s_.1 : Value).ownBlock ∧ some k_ ≠ (s_.2.1 : Value).ownBlock ∧ some k_ ≠ (s_.2.2.1 : Value).ownBlock ∧ some k_ ≠ (s_.2.2.2.1 : Value).ownBlock ∧ some k_ ≠ (s_.2.2.2.2.1 : Value).ownBlock ∧ some k_ ≠ (.slice Ao43 t324.length co43 : Value).ownBlock ∧ some k_ ≠ (.slice Ao45 t327.length co45 : Value).ownBlock ∧ some k_ ≠ (.slice Ao51 t370.length co51 : Value).ownBlock ∧ some k_ ≠ (.slice Ao56 t371.length co56 : Value).ownBlock ∧ some k_ ≠ (.slice Ao61 t373.length co61 : Value).ownBlock ∧ some k_ ≠ (.slice Ao67 t374.length co67 : Value).ownBlock ∧ some k_ ≠ (.slice Ao71 t346.length co71 : Value).ownBlock ∧ some k_ ≠ (.slice Ao78 t349.length co78 : Value).ownBlock) s_.2.2.2.2.2.1 t395) ∧ (Kd.R (Kd.int .i64) 3 w' w.heap.size (fun k_ => some k_ ≠ (s_.1 : Value).ownBlock ∧ some k_ ≠ (s_.2.1 : Value).ownBlock ∧ some k_ ≠ (s_.2.2.1 : Value).ownBlock ∧ some k_ ≠ (s_.2.2.2.1 : Value).ownBlock ∧ some k_ ≠ (s_.2.2.2.2.1 : Value).ownBlock ∧ some k_ ≠ (s_.2.2.2.2.2.1 : Value).ownBlock ∧ some k_ ≠ (.slice Ao45 t327.length co45 : Value).ownBlock ∧ some k_ ≠ (.slice Ao51 t370.length co51 : Value).ownBlock ∧ some k_ ≠ (.slice Ao56 t371.length co56 : Value).ownBlock ∧ some k_ ≠ (.slice Ao61 t373.length co61 : Value).ownBlock ∧ some k_ ≠ (.slice Ao67 t374.length co67 : Value).ownBlock ∧ some k_ ≠ (.slice Ao71 t346.length co71 : Value).ownBlock ∧ some k_ ≠ (.slice Ao78 t349.length co78 : Value).ownBlock) (.slice Ao43 t324.length co43) t324) ∧ (Kd.R (Kd.int .i64) 3 w' w.heap.size (fun k_ => some k_ ≠ (s_.1 : Value).ownBlock ∧ some k_ ≠ (s_.2.1 : Value).ownBlock ∧ some k_ ≠ (s_.2.2.1 : Value).ownBlock ∧ some k_ ≠ (s_.2.2.2.1 : Value).ownBlock ∧ some k_ ≠ (s_.2.2.2.2.1 : Value).ownBlock ∧ some k_ ≠ (s_.2.2.2.2.2.1 : Value).ownBlock ∧ some k_ ≠ (.slice Ao43 t324.length co43 : Value).ownBlock ∧ some k_ ≠ (.slice Ao51 t370.length co51 : Value).ownBlock ∧ some k_ ≠ (.slice Ao56 t371.length co56 : Value).ownBlock ∧ some k_ ≠ (.slice Ao61 t373.length co61 : Value).ownBlock ∧ some k_ ≠ (.slice Ao67 t374.length co67 : Value).ownBlock ∧ some k_ ≠ (.slice Ao71 t346.length co71 : Value).ownBlock ∧ some k_ ≠ (.slice Ao78 t349.length co78 : Value).ownBlock) (.slice Ao45 t327.length co45) t327) ∧ (Kd.R (Kd.int .i64) 3 w' w.heap.size (fun k_ => some k_ ≠ (s_.1 : Value).ownBlock ∧ some k_ ≠ (s_.2.1 : Value).ownBlock ∧ some k_ ≠ (s_.2.2.1 : Value).ownBlock ∧ some k_ ≠ (s_.2.2.2.1 : Value).ownBlock ∧ some k_ ≠ (s_.2.2.2.2.1 : Value).ownBlock ∧ some k_ ≠ (s_.2.2.2.2.2.1 : Value).ownBlock ∧ some k_ ≠ (.slice Ao43 t324.length co43 : Value).ownBlock ∧ some k_ ≠ (.slice Ao45 t327.length co45 : Value).ownBlock ∧ some k_ ≠ (.slice Ao56 t371.length co56 : Value).ownBlock ∧ some k_ ≠ (.slice Ao61 t373.length co61 : Value).ownBlock ∧ some k_ ≠ (.slice Ao67 t374.length co67 : Value).ownBlock ∧ some k_ ≠ (.slice Ao71 t346.length co71 : Value).ownBlock ∧ some k_ ≠ (.slice Ao78 t349.length co78 : Value).ownBlock) (.slice Ao51 t370.length co51) t370) ∧ (Kd.R (Kd.int .i64) 3 w' w.heap.size (fun k_ => some k_ ≠ (s_.1 : Value).ownBlock ∧ some k_ ≠ (s_.2.1 : Value).ownBlock ∧ some k_ ≠ (s_.2.2.1 : Value).ownBlock ∧ some k_ ≠ (s_.2.2.2.1 : Value).ownBlock ∧ some k_ ≠ (s_.2.2.2.2.1 : Value).ownBlock ∧ some k_ ≠ (s_.2.2.2.2.2.1 : Value).ownBlock ∧ some k_ ≠ (.slice Ao43 t324.length co43 : Value).ownBlock ∧ some k_ ≠ (.slice Ao45 t327.length co45 : Value).ownBlock ∧ some k_ ≠ (.slice Ao51 t370.length co51 : Value).ownBlock ∧ some k_ ≠ (.slice Ao61 t373.length co61 : Value).ownBlock ∧ some k_ ≠ (.slice Ao67 t374.length co67 : Value).ownBlock ∧ some k_ ≠ (.slice Ao71 t346.length co71 : Value).ownBlock ∧ some k_ ≠ (.slice Ao78 t349.length co78 : Value).ownBlock) (.slice Ao56 t371.length co56) t371) ∧ (Kd.R (Kd.int .i64) 3 w' w.heap.size (fun k_ => some k_ ≠ (s_.1 : Value).ownBlock ∧ some k_ ≠ (s_.2.1 : Value).ownBlock ∧ some k_ ≠ (s_.2.2.1 : Value).ownBlock ∧ some k_ ≠ (s_.2.2.2.1 : Value).ownBlock ∧ some k_ ≠ (s_.2.2.2.2.1 : Value).ownBlock ∧ some k_ ≠ (s_.2.2.2.2.2.1 : Value).ownBlock ∧ some k_ ≠ (.slice Ao43 t324.length co43 : Value).ownBlock ∧ some k_ ≠ (.slice Ao45 t327.length co45 : Value).ownBlock ∧ some k_ ≠ (.slice Ao51 t370.length co51 : Value).ownBlock ∧ some k_ ≠ (.slice Ao56 t371.length co56 : Value).ownBlock ∧ some k_ ≠ (.slice Ao67 t374.length co67 : Value).ownBlock ∧ some k_ ≠ (.slice Ao71 t346.length co71 : Value).ownBlock ∧ some k_ ≠ (.slice Ao78 t349.length co78 : Value).ownBlock) (.slice Ao61 t373.length co61) t373) ∧ (Kd.R (Kd.int .i64) 3 w' w.heap.size (fun k_ => some k_ ≠ (s_.1 : Value).ownBlock ∧ some k_ ≠ (s_.2.1 : Value).ownBlock ∧ some k_ ≠ (s_.2.2.1 : Value).ownBlock ∧ some k_ ≠ (s_.2.2.2.1 : Value).ownBlock ∧ some k_ ≠ (s_.2.2.2.2.1 : Value).ownBlock ∧ some k_ ≠ (s_.2.2.2.2.2.1 : Value).ownBlock ∧ some k_ ≠ (.slice Ao43 t324.length co43 : Value).ownBlock ∧ some k_ ≠ (.slice Ao45 t327.length co45 : Value).ownBlock ∧ some k_ ≠ (.slice Ao51 t370.length co51 : Value).ownBlock ∧ some k_ ≠ (.slice Ao56 t371.length co56 : Value).ownBlock ∧ some k_ ≠ (.slice Ao61 t373.length co61 : Value).ownBlock ∧ some k_ ≠ (.slice Ao71 t346.length co71 : Value).ownBlock ∧ some k_ ≠ (.slice Ao78 t349.length co78 : Value).ownBlock) (.slice Ao67 t374.length co67) t374) ∧ (Kd.R (Kd.int .i64) 3 w' w.heap.size (fun k_ => some k_ ≠ (s_.1 : Value).ownBlock ∧ some k_ ≠ (s_.2.1 : Value).ownBlock ∧ some k_ ≠ (s_.2.2.1 : Value).ownBlock ∧ some k_ ≠ (s_.2.2.2.1 : Value).ownBlock ∧ some k_ ≠ (s_.2.2.2.2.1 : Value).ownBlock ∧ some k_ ≠ (s_.2.2.2.2.2.1 : Value).ownBlock ∧ some k_ ≠ (.slice Ao43 t324.length co43 : Value).ownBlock ∧ some k_ ≠ (.slice Ao45 t327.length co45 : Value).ownBlock ∧ some k_ ≠ (.slice Ao51 t370.length co51 : Value).ownBlock ∧ some k_ ≠ (.slice Ao56 t371.length co56 : Value).ownBlock ∧ some k_ ≠ (.slice Ao61 t373.length co61 : Value).ownBlock ∧ some k_ ≠ (.slice Ao67 t374.length co67 : Value).ownBlock ∧ some k_ ≠ (.slice Ao78 t349.length co78 : Value).ownBlock) (.slice Ao71 t346.length co71) t377) ∧ (Kd.R (Kd.int .i64) 3 w' w.heap.size (fun k_ => some k_ ≠ (s_.1 : Value).ownBlock ∧ some k_ ≠ (s_.2.1 : Value).ownBlock ∧ some k_ ≠ (s_.2.2.1 : Value).ownBlock ∧ some k_ ≠ (s_.2.2.2.1 : Value).ownBlock ∧ some k_ ≠ (s_.2.2.2.2.1 : Value).ownBlock ∧ some k_ ≠ (s_.2.2.2.2.2.1 : Value).ownBlock ∧ some k_ ≠ (.slice Ao43 t324.length co43 : Value).ownBlock ∧ some k_ ≠ (.slice Ao45 t327.length co45 : Value).ownBlock ∧ some k_ ≠ (.slice Ao51 t370.length co51 : Value).ownBlock ∧ some k_ ≠ (.slice Ao56 t371.length co56 : Value).ownBlock ∧ some k_ ≠ (.slice Ao61 t373.length co61 : Value).ownBlock ∧ some k_ ≠ (.slice Ao67 t374.length co67 : Value).ownBlock ∧ some k_ ≠ (.slice Ao71 t346.length co71 : Value).ownBlock) (.slice Ao78 t349.length co78) t378) ∧ (w'.heap[gb308]? = some (.cells #[.slice A0_0 l0_0.length c0_0, .slice A0_1 l0_1.length c0_1] 24 (0, 0))) ∧ (w'.heap[gb309]? = some (.cells #[.slice A1_0 l1_0.length c1_0, .slice A1_1 l1_1.length c1_1] 24 (0, 0))) ∧ (w'.heap[gb331]? = some (.cells #[.slice Ao43 t324.length co43, .slice Ao45 t327.length co45] 26 (0, 0))) ∧ (w'.heap[gb338]? = some (.cells #[.slice Ao51 t370.length co51, .slice Ao56 t371.length co56] 26 (0, 0))) ∧ (w'.heap[gb345]? = some (.cells #[.slice Ao61 t373.length co61, .slice Ao67 t374.length co67] 26 (0, 0))) ∧ (w'.heap[gb353]? = some (.cells #[.slice Ao71 t346.length co71, .slice Ao78 t349.length co78] 26 (0, 0))) ∧ (w'.heap[s_.2.2.2.2.2.2]? = some (.cells #[.slice none 0 0, .slice none 0 0] 26 (0, 0))) ∧ (w.heap.size ≤ s_.2.2.2.2.2.2) ∧ (w.heap.size ≤ s_.2.2.2.2.2.2) ∧ (gb308 ≠ s_.2.2.2.2.2.2) ∧ (s_.2.2.2.2.2.2 ≠ gb308) ∧ (gb309 ≠ s_.2.2.2.2.2.2) ∧ (s_.2.2.2.2.2.2 ≠ gb309) ∧ (gb331 ≠ s_.2.2.2.2.2.2) ∧ (s_.2.2.2.2.2.2 ≠ gb331) ∧ (gb338 ≠ s_.2.2.2.2.2.2) ∧ (s_.2.2.2.2.2.2 ≠ gb338) ∧ (gb345 ≠ s_.2.2.2.2.2.2) ∧ (s_.2.2.2.2.2.2 ≠ gb345) ∧ (gb353 ≠ s_.2.2.2.2.2.2) ∧ (s_.2.2.2.2.2.2 ≠ gb353) ∧ (Below w.heap.size w w')) ?_ ?_
             rotate_left
             ·
              intro hCont
              refine two_ (i := 1) (j := 8) (Ni := some 96) (Nj := some 15) #[true, true, true, false, false, false, false, false, false, false, false] #[true, false, true, false, false, false, false, false, true, false, false] rfl rfl rfl rfl (two_of HT_.out (by kernel_rfl)) (by decide) (by decide) (fun K hK => ?_) (fun K hK => ?_)
              ·
               skip
               refine goes_ Try.func17 (by kernel_rfl) rfl #[.agg #[.slice A0_0 l0_0.length c0_0, .slice A0_1 l0_1.length c0_1]] (by rfl) rfl rfl (by (try simp only [List.map_toArray, List.map_cons, List.map_nil]); first | done | rfl | (simp only [List.length_drop, List.length_take]; rfl)) ?_
               with_reducible refine (laws_toArray.calls kj101 _ _ l0_0 _ _ l0_1 t380 t383 _ ?side1 ?side2 ?side3 ?side4 A146.out).mono ?_
               (case side1 => exact cU (Kd.C_below HR0_0.out HB.out))
               (case side2 => exact HC0_0.out)
               (case side3 => exact cU (Kd.C_below HR0_1.out HB.out))
               (case side4 => exact HC0_1.out)
               rintro e w160 ⟨v381, v384, rfl, ho0, ho1, hb⟩
               refine ⟨_, rfl, ?_⟩
               have HO382 := Aside0.mk (Kd.R_lower (Kd.R_new' (Kd.R_new' (Kd.R_new' (Kd.R_new' (Kd.R_new' (Kd.R_new' (Kd.R_new' (Kd.R_new' ho0 (Kd.R_lt (RU HO_332000.out))) (Kd.R_lt (RU HO_332001.out))) (Kd.R_lt (RU HO_339000.out))) (Kd.R_lt (RU HO_339001.out))) (Kd.R_lt (RU HO_346000.out))) (Kd.R_lt (RU HO_346001.out))) (Kd.R_lt (RU HO_354000.out))) (Kd.R_lt (RU HO_354001.out))) (below_size (by repeat (first | (with_reducible first | exact HB.out | apply below_alloc | apply pw_below_drewN | apply below_drew1 | refine below_set ?_ GE308.out | refine below_set ?_ GE309.out | refine below_set ?_ GE331.out | refine below_set ?_ GE338.out | refine below_set ?_ GE345.out | refine below_set ?_ GE353.out) | exact HB.out))))
               have HO385 := Aside0.mk (Kd.R_lower (Kd.R_new' (Kd.R_new' (Kd.R_new' (Kd.R_new' (Kd.R_new' (Kd.R_new' (Kd.R_new' (Kd.R_new' ho1 (Kd.R_lt (RU HO_332000.out))) (Kd.R_lt (RU HO_332001.out))) (Kd.R_lt (RU HO_339000.out))) (Kd.R_lt (RU HO_339001.out))) (Kd.R_lt (RU HO_346000.out))) (Kd.R_lt (RU HO_346001.out))) (Kd.R_lt (RU HO_354000.out))) (Kd.R_lt (RU HO_354001.out))) (below_size (by repeat (first | (with_reducible first | exact HB.out | apply below_alloc | apply pw_below_drewN | apply below_drew1 | refine below_set ?_ GE308.out | refine below_set ?_ GE309.out | refine below_set ?_ GE331.out | refine below_set ?_ GE338.out | refine below_set ?_ GE345.out | refine below_set ?_ GE353.out) | exact HB.out))))
               replace HO_332000 := Aside0.mk (Kd.R_mono (Kd.R_told (Kd.R_told (Kd.R_old (RU HO_332000.out) hb) (Kd.R_base ho0)) (Kd.R_base ho1)) (fun _ h_ => h_.1))
               replace HO_332001 := Aside0.mk (Kd.R_mono (Kd.R_told (Kd.R_told (Kd.R_old (RU HO_332001.out) hb) (Kd.R_base ho0)) (Kd.R_base ho1)) (fun _ h_ => h_.1))
               replace HO_339000 := Aside0.mk (Kd.R_mono (Kd.R_told (Kd.R_told (Kd.R_old (RU HO_339000.out) hb) (Kd.R_base ho0)) (Kd.R_base ho1)) (fun _ h_ => h_.1))
               replace HO_339001 := Aside0.mk (Kd.R_mono (Kd.R_told (Kd.R_told (Kd.R_old (RU HO_339001.out) hb) (Kd.R_base ho0)) (Kd.R_base ho1)) (fun _ h_ => h_.1))
               replace HO_346000 := Aside0.mk (Kd.R_mono (Kd.R_told (Kd.R_told (Kd.R_old (RU HO_346000.out) hb) (Kd.R_base ho0)) (Kd.R_base ho1)) (fun _ h_ => h_.1))
               replace HO_346001 := Aside0.mk (Kd.R_mono (Kd.R_told (Kd.R_told (Kd.R_old (RU HO_346001.out) hb) (Kd.R_base ho0)) (Kd.R_base ho1)) (fun _ h_ => h_.1))
               replace HO_354000 := Aside0.mk (Kd.R_mono (Kd.R_told (Kd.R_told (Kd.R_old (RU HO_354000.out) hb) (Kd.R_base ho0)) (Kd.R_base ho1)) (fun _ h_ => h_.1))
               replace HO_354001 := Aside0.mk (Kd.R_mono (Kd.R_told (Kd.R_told (Kd.R_old (RU HO_354001.out) hb) (Kd.R_base ho0)) (Kd.R_base ho1)) (fun _ h_ => h_.1))
               replace BK308 := Aside0.mk (blk_below (g := gb308) (o := .cells #[.slice A0_0 l0_0.length c0_0, .slice A0_1 l0_1.length c0_1] 24 (0, 0)) (kU BK308.out) hb)
               replace BK309 := Aside0.mk (blk_below (g := gb309) (o := .cells #[.slice A1_0 l1_0.length c1_0, .slice A1_1 l1_1.length c1_1] 24 (0, 0)) (kU BK309.out) hb)
               replace BK331 := Aside0.mk (blk_below (g := gb331) (o := .cells #[.slice Ao43 t324.length co43, .slice Ao45 t327.length co45] 26 (0, 0)) (kU BK331.out) hb)
               replace BK338 := Aside0.mk (blk_below (g := gb338) (o := .cells #[.slice Ao51 t370.length co51, .slice Ao56 t371.length co56] 26 (0, 0)) (kU BK338.out) hb)
               replace BK345 := Aside0.mk (blk_below (g := gb345) (o := .cells #[.slice Ao61 t373.length co61, .slice Ao67 t374.length co67] 26 (0, 0)) (kU BK345.out) hb)
               replace BK353 := Aside0.mk (blk_below (g := gb353) (o := .cells #[.slice Ao71 t346.length co71, .slice Ao78 t349.length co78] 26 (0, 0)) (kU BK353.out) hb)
               replace HB := Aside0.mk (below_step (by repeat (first | (with_reducible first | exact HB.out | apply below_alloc | apply pw_below_drewN | apply below_drew1 | refine below_set ?_ GE308.out | refine below_set ?_ GE309.out | refine below_set ?_ GE331.out | refine below_set ?_ GE338.out | refine below_set ?_ GE345.out | refine below_set ?_ GE353.out) | exact HB.out)) hb)
               (try clear hb)
               (try clear hb2)
               (try clear hk)
               (try clear hi)
               (try clear ho0)
               (try clear ho1)
               refine hK.out _ _ ⟨(blk_cell BK308.out 0).trans rfl, (blk_cell BK308.out 1).trans rfl, (blk_cell BK309.out 0).trans rfl, (blk_cell BK309.out 1).trans rfl⟩ (fun hHeld => ?_)
               clear hK K
               refine norm_ (a' := ?_) ?_ ?_
               rotate_left
               ·
                show Act.put _ (some 96) _ = _
                simp only [Act.put, List.setIfInBounds_toArray, List.set_cons_zero, List.set_cons_succ, i64_w, i32_w]
                rfl
               refine two_ (i := 3) (j := 8) (Ni := some 98) (Nj := some 15) #[true, true, true, true, false, false, false, false, false, false, false] #[true, true, true, false, false, false, false, false, true, false, false] rfl rfl rfl rfl (two_of HT_.out (by kernel_rfl)) (by decide) (by decide) (fun K hK => ?_) (fun K hK => ?_)
               ·
                skip
                refine goes_ Try.func17 (by kernel_rfl) rfl #[.agg #[.slice A1_0 l1_0.length c1_0, .slice A1_1 l1_1.length c1_1]] (by rfl) rfl rfl (by (try simp only [List.map_toArray, List.map_cons, List.map_nil]); first | done | rfl | (simp only [List.length_drop, List.length_take]; rfl)) ?_
                with_reducible refine (laws_toArray.calls kj101 _ _ l1_0 _ _ l1_1 t386 t389 _ ?side1 ?side2 ?side3 ?side4 A147.out).mono ?_
                (case side1 => exact cU (Kd.C_below HR1_0.out HB.out))
                (case side2 => exact HC1_0.out)
                (case side3 => exact cU (Kd.C_below HR1_1.out HB.out))
                (case side4 => exact HC1_1.out)
                rintro e w161 ⟨v387, v390, rfl, ho0, ho1, hb⟩
                refine ⟨_, rfl, ?_⟩
                have HO388 := Aside0.mk (Kd.R_lower (Kd.R_new' (Kd.R_new' (Kd.R_new' (Kd.R_new' (Kd.R_new' (Kd.R_new' (Kd.R_new' (Kd.R_new' (Kd.R_new' (Kd.R_new' ho0 (Kd.R_lt (RU HO_332000.out))) (Kd.R_lt (RU HO_332001.out))) (Kd.R_lt (RU HO_339000.out))) (Kd.R_lt (RU HO_339001.out))) (Kd.R_lt (RU HO_346000.out))) (Kd.R_lt (RU HO_346001.out))) (Kd.R_lt (RU HO_354000.out))) (Kd.R_lt (RU HO_354001.out))) (Kd.R_lt (RU HO382.out))) (Kd.R_lt (RU HO385.out))) (below_size (by repeat (first | (with_reducible first | exact HB.out | apply below_alloc | apply pw_below_drewN | apply below_drew1 | refine below_set ?_ GE308.out | refine below_set ?_ GE309.out | refine below_set ?_ GE331.out | refine below_set ?_ GE338.out | refine below_set ?_ GE345.out | refine below_set ?_ GE353.out) | exact HB.out))))
                have HO391 := Aside0.mk (Kd.R_lower (Kd.R_new' (Kd.R_new' (Kd.R_new' (Kd.R_new' (Kd.R_new' (Kd.R_new' (Kd.R_new' (Kd.R_new' (Kd.R_new' (Kd.R_new' ho1 (Kd.R_lt (RU HO_332000.out))) (Kd.R_lt (RU HO_332001.out))) (Kd.R_lt (RU HO_339000.out))) (Kd.R_lt (RU HO_339001.out))) (Kd.R_lt (RU HO_346000.out))) (Kd.R_lt (RU HO_346001.out))) (Kd.R_lt (RU HO_354000.out))) (Kd.R_lt (RU HO_354001.out))) (Kd.R_lt (RU HO382.out))) (Kd.R_lt (RU HO385.out))) (below_size (by repeat (first | (with_reducible first | exact HB.out | apply below_alloc | apply pw_below_drewN | apply below_drew1 | refine below_set ?_ GE308.out | refine below_set ?_ GE309.out | refine below_set ?_ GE331.out | refine below_set ?_ GE338.out | refine below_set ?_ GE345.out | refine below_set ?_ GE353.out) | exact HB.out))))
                replace HO_332000 := Aside0.mk (Kd.R_mono (Kd.R_told (Kd.R_told (Kd.R_old (RU HO_332000.out) hb) (Kd.R_base ho0)) (Kd.R_base ho1)) (fun _ h_ => h_.1))
                replace HO_332001 := Aside0.mk (Kd.R_mono (Kd.R_told (Kd.R_told (Kd.R_old (RU HO_332001.out) hb) (Kd.R_base ho0)) (Kd.R_base ho1)) (fun _ h_ => h_.1))
                replace HO_339000 := Aside0.mk (Kd.R_mono (Kd.R_told (Kd.R_told (Kd.R_old (RU HO_339000.out) hb) (Kd.R_base ho0)) (Kd.R_base ho1)) (fun _ h_ => h_.1))
                replace HO_339001 := Aside0.mk (Kd.R_mono (Kd.R_told (Kd.R_told (Kd.R_old (RU HO_339001.out) hb) (Kd.R_base ho0)) (Kd.R_base ho1)) (fun _ h_ => h_.1))
                replace HO_346000 := Aside0.mk (Kd.R_mono (Kd.R_told (Kd.R_told (Kd.R_old (RU HO_346000.out) hb) (Kd.R_base ho0)) (Kd.R_base ho1)) (fun _ h_ => h_.1))
                replace HO_346001 := Aside0.mk (Kd.R_mono (Kd.R_told (Kd.R_told (Kd.R_old (RU HO_346001.out) hb) (Kd.R_base ho0)) (Kd.R_base ho1)) (fun _ h_ => h_.1))
                replace HO_354000 := Aside0.mk (Kd.R_mono (Kd.R_told (Kd.R_told (Kd.R_old (RU HO_354000.out) hb) (Kd.R_base ho0)) (Kd.R_base ho1)) (fun _ h_ => h_.1))
                replace HO_354001 := Aside0.mk (Kd.R_mono (Kd.R_told (Kd.R_told (Kd.R_old (RU HO_354001.out) hb) (Kd.R_base ho0)) (Kd.R_base ho1)) (fun _ h_ => h_.1))
                replace HO382 := Aside0.mk (Kd.R_mono (Kd.R_told (Kd.R_told (Kd.R_old (RU HO382.out) hb) (Kd.R_base ho0)) (Kd.R_base ho1)) (fun _ h_ => h_.1))
                replace HO385 := Aside0.mk (Kd.R_mono (Kd.R_told (Kd.R_told (Kd.R_old (RU HO385.out) hb) (Kd.R_base ho0)) (Kd.R_base ho1)) (fun _ h_ => h_.1))
                replace BK308 := Aside0.mk (blk_below (g := gb308) (o := .cells #[.slice A0_0 l0_0.length c0_0, .slice A0_1 l0_1.length c0_1] 24 (0, 0)) (kU BK308.out) hb)
                replace BK309 := Aside0.mk (blk_below (g := gb309) (o := .cells #[.slice A1_0 l1_0.length c1_0, .slice A1_1 l1_1.length c1_1] 24 (0, 0)) (kU BK309.out) hb)
                replace BK331 := Aside0.mk (blk_below (g := gb331) (o := .cells #[.slice Ao43 t324.length co43, .slice Ao45 t327.length co45] 26 (0, 0)) (kU BK331.out) hb)
                replace BK338 := Aside0.mk (blk_below (g := gb338) (o := .cells #[.slice Ao51 t370.length co51, .slice Ao56 t371.length co56] 26 (0, 0)) (kU BK338.out) hb)
                replace BK345 := Aside0.mk (blk_below (g := gb345) (o := .cells #[.slice Ao61 t373.length co61, .slice Ao67 t374.length co67] 26 (0, 0)) (kU BK345.out) hb)
                replace BK353 := Aside0.mk (blk_below (g := gb353) (o := .cells #[.slice Ao71 t346.length co71, .slice Ao78 t349.length co78] 26 (0, 0)) (kU BK353.out) hb)
                replace HB := Aside0.mk (below_step (by repeat (first | (with_reducible first | exact HB.out | apply below_alloc | apply pw_below_drewN | apply below_drew1 | refine below_set ?_ GE308.out | refine below_set ?_ GE309.out | refine below_set ?_ GE331.out | refine below_set ?_ GE338.out | refine below_set ?_ GE345.out | refine below_set ?_ GE353.out) | exact HB.out)) hb)
                (try clear hb)
                (try clear hb2)
                (try clear hk)
                (try clear hi)
                (try clear ho0)
                (try clear ho1)
                obtain ⟨Ao162, co162, eo162⟩ := Kd.R_slice HO382.out
                (first | subst eo162 | (injection eo162 with f1_ f2_ f3_; have f4_ := f1_.symm; have f5_ := f3_.symm; clear f1_ f2_ f3_; subst f4_; subst f5_))
                obtain ⟨Ao163, co163, eo163⟩ := Kd.R_slice HO385.out
                (first | subst eo163 | (injection eo163 with f1_ f2_ f3_; have f4_ := f1_.symm; have f5_ := f3_.symm; clear f1_ f2_ f3_; subst f4_; subst f5_))
                obtain ⟨Ao164, co164, eo164⟩ := Kd.R_slice HO388.out
                (first | subst eo164 | (injection eo164 with f1_ f2_ f3_; have f4_ := f1_.symm; have f5_ := f3_.symm; clear f1_ f2_ f3_; subst f4_; subst f5_))
                obtain ⟨Ao165, co165, eo165⟩ := Kd.R_slice HO391.out
                (first | subst eo165 | (injection eo165 with f1_ f2_ f3_; have f4_ := f1_.symm; have f5_ := f3_.symm; clear f1_ f2_ f3_; subst f4_; subst f5_))
                refine hK.out _ _ ⟨(blk_cell BK308.out 0).trans rfl, (blk_cell BK308.out 1).trans rfl, (blk_cell BK309.out 0).trans rfl, (blk_cell BK309.out 1).trans rfl⟩ (fun hHeld => ?_)
                clear hK K
                refine norm_ (a' := ?_) ?_ ?_
                rotate_left
                ·
                 show Act.put _ (some 98) _ = _
                 simp only [Act.put, List.setIfInBounds_toArray, List.set_cons_zero, List.set_cons_succ, i64_w, i32_w]
                 rfl
                refine two_ (i := 4) (j := 8) (Ni := some 99) (Nj := some 15) #[true, true, true, true, true, false, false, false, false, false, false] #[true, true, true, true, false, false, false, false, true, false, false] rfl rfl rfl rfl (two_of HT_.out (by kernel_rfl)) (by decide) (by decide) (fun K hK => ?_) (fun K hK => ?_)
                ·
                 skip
                 refine goes_ Try.func40 (by kernel_rfl) rfl #[.agg #[.slice Ao162 t380.length co162, .slice Ao163 t383.length co163], .agg #[.slice Ao164 t386.length co164, .slice Ao165 t389.length co165]] (by rfl) rfl rfl (by (try simp only [List.map_toArray, List.map_cons, List.map_nil]); first | done | rfl | (simp only [List.length_drop, List.length_take]; rfl)) ?_
                 with_reducible refine (impl_Rotate.calls kj101 _ _ t380 _ _ t383 _ _ t386 _ _ t389 t392 t395 t398 _ ?side1 ?side2 ?side3 ?side4 ?side5 ?side6 ?side7 ?side8 A148.out).mono ?_
                 (case side1 => exact cU (Kd.R_reads' HO382.out).2.2)
                 (case side2 => exact (Kd.R_reads' HO382.out).2.1)
                 (case side3 => exact cU (Kd.R_reads' HO385.out).2.2)
                 (case side4 => exact (Kd.R_reads' HO385.out).2.1)
                 (case side5 => exact cU (Kd.R_reads' HO388.out).2.2)
                 (case side6 => exact (Kd.R_reads' HO388.out).2.1)
                 (case side7 => exact cU (Kd.R_reads' HO391.out).2.2)
                 (case side8 => exact (Kd.R_reads' HO391.out).2.1)
                 rintro e w166 ⟨v393, v396, rfl, ho0, ho1, hb⟩
                 refine ⟨_, rfl, ?_⟩
                 have HO394 := Aside0.mk (Kd.R_lower (Kd.R_new' (Kd.R_new' (Kd.R_new' (Kd.R_new' (Kd.R_new' (Kd.R_new' (Kd.R_new' (Kd.R_new' (Kd.R_new' (Kd.R_new' (Kd.R_new' (Kd.R_new' ho0 (Kd.R_lt (RU HO_332000.out))) (Kd.R_lt (RU HO_332001.out))) (Kd.R_lt (RU HO_339000.out))) (Kd.R_lt (RU HO_339001.out))) (Kd.R_lt (RU HO_346000.out))) (Kd.R_lt (RU HO_346001.out))) (Kd.R_lt (RU HO_354000.out))) (Kd.R_lt (RU HO_354001.out))) (Kd.R_lt (RU HO382.out))) (Kd.R_lt (RU HO385.out))) (Kd.R_lt (RU HO388.out))) (Kd.R_lt (RU HO391.out))) (below_size (by repeat (first | (with_reducible first | exact HB.out | apply below_alloc | apply pw_below_drewN | apply below_drew1 | refine below_set ?_ GE308.out | refine below_set ?_ GE309.out | refine below_set ?_ GE331.out | refine below_set ?_ GE338.out | refine below_set ?_ GE345.out | refine below_set ?_ GE353.out) | exact HB.out))))
                 have HO397 := Aside0.mk (Kd.R_lower (Kd.R_new' (Kd.R_new' (Kd.R_new' (Kd.R_new' (Kd.R_new' (Kd.R_new' (Kd.R_new' (Kd.R_new' (Kd.R_new' (Kd.R_new' (Kd.R_new' (Kd.R_new' ho1 (Kd.R_lt (RU HO_332000.out))) (Kd.R_lt (RU HO_332001.out))) (Kd.R_lt (RU HO_339000.out))) (Kd.R_lt (RU HO_339001.out))) (Kd.R_lt (RU HO_346000.out))) (Kd.R_lt (RU HO_346001.out))) (Kd.R_lt (RU HO_354000.out))) (Kd.R_lt (RU HO_354001.out))) (Kd.R_lt (RU HO382.out))) (Kd.R_lt (RU HO385.out))) (Kd.R_lt (RU HO388.out))) (Kd.R_lt (RU HO391.out))) (below_size (by repeat (first | (with_reducible first | exact HB.out | apply below_alloc | apply pw_below_drewN | apply below_drew1 | refine below_set ?_ GE308.out | refine below_set ?_ GE309.out | refine below_set ?_ GE331.out | refine below_set ?_ GE338.out | refine below_set ?_ GE345.out | refine below_set ?_ GE353.out) | exact HB.out))))
                 replace HO_332000 := Aside0.mk (Kd.R_mono (Kd.R_told (Kd.R_told (Kd.R_old (RU HO_332000.out) hb) (Kd.R_base ho0)) (Kd.R_base ho1)) (fun _ h_ => h_.1))
                 replace HO_332001 := Aside0.mk (Kd.R_mono (Kd.R_told (Kd.R_told (Kd.R_old (RU HO_332001.out) hb) (Kd.R_base ho0)) (Kd.R_base ho1)) (fun _ h_ => h_.1))
                 replace HO_339000 := Aside0.mk (Kd.R_mono (Kd.R_told (Kd.R_told (Kd.R_old (RU HO_339000.out) hb) (Kd.R_base ho0)) (Kd.R_base ho1)) (fun _ h_ => h_.1))
                 replace HO_339001 := Aside0.mk (Kd.R_mono (Kd.R_told (Kd.R_told (Kd.R_old (RU HO_339001.out) hb) (Kd.R_base ho0)) (Kd.R_base ho1)) (fun _ h_ => h_.1))
                 replace HO_346000 := Aside0.mk (Kd.R_mono (Kd.R_told (Kd.R_told (Kd.R_old (RU HO_346000.out) hb) (Kd.R_base ho0)) (Kd.R_base ho1)) (fun _ h_ => h_.1))
                 replace HO_346001 := Aside0.mk (Kd.R_mono (Kd.R_told (Kd.R_told (Kd.R_old (RU HO_346001.out) hb) (Kd.R_base ho0)) (Kd.R_base ho1)) (fun _ h_ => h_.1))
                 replace HO_354000 := Aside0.mk (Kd.R_mono (Kd.R_told (Kd.R_told (Kd.R_old (RU HO_354000.out) hb) (Kd.R_base ho0)) (Kd.R_base ho1)) (fun _ h_ => h_.1))
                 replace HO_354001 := Aside0.mk (Kd.R_mono (Kd.R_told (Kd.R_told (Kd.R_old (RU HO_354001.out) hb) (Kd.R_base ho0)) (Kd.R_base ho1)) (fun _ h_ => h_.1))
                 replace HO382 := Aside0.mk (Kd.R_mono (Kd.R_told (Kd.R_told (Kd.R_old (RU HO382.out) hb) (Kd.R_base ho0)) (Kd.R_base ho1)) (fun _ h_ => h_.1))
                 replace HO385 := Aside0.mk (Kd.R_mono (Kd.R_told (Kd.R_told (Kd.R_old (RU HO385.out) hb) (Kd.R_base ho0)) (Kd.R_base ho1)) (fun _ h_ => h_.1))
                 replace HO388 := Aside0.mk (Kd.R_mono (Kd.R_told (Kd.R_told (Kd.R_old (RU HO388.out) hb) (Kd.R_base ho0)) (Kd.R_base ho1)) (fun _ h_ => h_.1))
                 replace HO391 := Aside0.mk (Kd.R_mono (Kd.R_told (Kd.R_told (Kd.R_old (RU HO391.out) hb) (Kd.R_base ho0)) (Kd.R_base ho1)) (fun _ h_ => h_.1))
                 replace BK308 := Aside0.mk (blk_below (g := gb308) (o := .cells #[.slice A0_0 l0_0.length c0_0, .slice A0_1 l0_1.length c0_1] 24 (0, 0)) (kU BK308.out) hb)
                 replace BK309 := Aside0.mk (blk_below (g := gb309) (o := .cells #[.slice A1_0 l1_0.length c1_0, .slice A1_1 l1_1.length c1_1] 24 (0, 0)) (kU BK309.out) hb)
                 replace BK331 := Aside0.mk (blk_below (g := gb331) (o := .cells #[.slice Ao43 t324.length co43, .slice Ao45 t327.length co45] 26 (0, 0)) (kU BK331.out) hb)
                 replace BK338 := Aside0.mk (blk_below (g := gb338) (o := .cells #[.slice Ao51 t370.length co51, .slice Ao56 t371.length co56] 26 (0, 0)) (kU BK338.out) hb)
                 replace BK345 := Aside0.mk (blk_below (g := gb345) (o := .cells #[.slice Ao61 t373.length co61, .slice Ao67 t374.length co67] 26 (0, 0)) (kU BK345.out) hb)
                 replace BK353 := Aside0.mk (blk_below (g := gb353) (o := .cells #[.slice Ao71 t346.length co71, .slice Ao78 t349.length co78] 26 (0, 0)) (kU BK353.out) hb)
                 replace HB := Aside0.mk (below_step (by repeat (first | (with_reducible first | exact HB.out | apply below_alloc | apply pw_below_drewN | apply below_drew1 | refine below_set ?_ GE308.out | refine below_set ?_ GE309.out | refine below_set ?_ GE331.out | refine below_set ?_ GE338.out | refine below_set ?_ GE345.out | refine below_set ?_ GE353.out) | exact HB.out)) hb)
                 (try clear hb)
                 (try clear hb2)
                 (try clear hk)
                 (try clear hi)
                 (try clear ho0)
                 (try clear ho1)
                 refine hK.out _ _ ⟨(blk_cell BK308.out 0).trans rfl, (blk_cell BK308.out 1).trans rfl, (blk_cell BK309.out 0).trans rfl, (blk_cell BK309.out 1).trans rfl⟩ (fun hHeld => ?_)
                 clear hK K
                 refine norm_ (a' := ?_) ?_ ?_
                 rotate_left
                 ·
                  show Act.put _ (some 99) _ = _
                  simp only [Act.put, List.setIfInBounds_toArray, List.set_cons_zero, List.set_cons_succ, i64_w, i32_w]
                  rfl
                 refine pure_ (i := 5) (N := some 94) (v := ?_) (a' := ?_) #[true, true, true, true, true, true, false, false, false, false, false] rfl rfl (any_of HT_.out (by kernel_rfl)) (fun _ _ _ h => h) (Or.inl ⟨by rfl, ?_⟩) ?_ ?_
                 rotate_left
                 ·
                  intro w'
                  go_simp
                  with_reducible rfl
                 rotate_left
                 ·
                  simp only [Act.put, List.setIfInBounds_toArray, List.set_cons_zero, List.set_cons_succ, i64_w, i32_w]
                  rfl
                 refine pure_ (i := 6) (N := some 100) (v := ?_) (a' := ?_) #[true, true, true, true, true, true, true, false, false, false, false] rfl rfl (any_of HT_.out (by kernel_rfl)) (fun _ _ _ h => h) (Or.inl ⟨by rfl, ?_⟩) ?_ ?_
                 rotate_left
                 ·
                  intro w'
                  go_simp
                  with_reducible rfl
                 rotate_left
                 ·
                  simp only [Act.put, List.setIfInBounds_toArray, List.set_cons_zero, List.set_cons_succ, i64_w, i32_w]
                  rfl
                 refine pure_ (i := 7) (N := some 101) (v := ?_) (a' := ?_) #[true, true, true, true, true, true, true, true, false, false, false] rfl rfl (any_of HT_.out (by kernel_rfl)) (fun _ _ _ h => h) (Or.inl ⟨by rfl, ?_⟩) ?_ ?_
                 rotate_left
                 ·
                  intro w'
                  go_simp
                  with_reducible rfl
                 rotate_left
                 ·
                  simp only [Act.put, List.setIfInBounds_toArray, List.set_cons_zero, List.set_cons_succ, i64_w, i32_w]
                  rfl
                 refine one_ (i := 8) (N := some 15) #[true, true, true, true, true, true, true, true, true, false, false] rfl rfl (one_of HT_.out (by kernel_rfl)) (by decide) (fun K hK => ?_)
                 refine box_step ?hg (N := 15) ?hd (cs := #[.slice none 0 0, .slice none 0 0]) (t := 26) ?hr ?_; (case hd => rfl); (case hg => rfl); (case hr => first | (go_simp; done) | (go_simp; rfl))
                 intro gb399 hg w167 hbox hb
                 replace HO_332000 := Aside0.mk (Kd.R_below (RU HO_332000.out) hb)
                 replace HO_332001 := Aside0.mk (Kd.R_below (RU HO_332001.out) hb)
                 replace HO_339000 := Aside0.mk (Kd.R_below (RU HO_339000.out) hb)
                 replace HO_339001 := Aside0.mk (Kd.R_below (RU HO_339001.out) hb)
                 replace HO_346000 := Aside0.mk (Kd.R_below (RU HO_346000.out) hb)
                 replace HO_346001 := Aside0.mk (Kd.R_below (RU HO_346001.out) hb)
                 replace HO_354000 := Aside0.mk (Kd.R_below (RU HO_354000.out) hb)
                 replace HO_354001 := Aside0.mk (Kd.R_below (RU HO_354001.out) hb)
                 replace HO382 := Aside0.mk (Kd.R_below (RU HO382.out) hb)
                 replace HO385 := Aside0.mk (Kd.R_below (RU HO385.out) hb)
                 replace HO388 := Aside0.mk (Kd.R_below (RU HO388.out) hb)
                 replace HO391 := Aside0.mk (Kd.R_below (RU HO391.out) hb)
                 replace HO394 := Aside0.mk (Kd.R_below (RU HO394.out) hb)
                 replace HO397 := Aside0.mk (Kd.R_below (RU HO397.out) hb)
                 have BK399 := Aside0.mk (hbox)
                 have GW399 := Aside0.mk ((by rw [hg]; exact (below_size (by repeat (first | (with_reducible first | exact HB.out | apply below_alloc | apply pw_below_drewN | apply below_drew1 | refine below_set ?_ GE308.out | refine below_set ?_ GE309.out | refine below_set ?_ GE331.out | refine below_set ?_ GE338.out | refine below_set ?_ GE345.out | refine below_set ?_ GE353.out) | exact HB.out))) : w.heap.size ≤ gb399))
                 have GE399 := Aside0.mk ((by rw [hg]; exact (below_size (by repeat (first | (with_reducible first | exact HB.out | apply below_alloc | apply pw_below_drewN | apply below_drew1 | refine below_set ?_ GE308.out | refine below_set ?_ GE309.out | refine below_set ?_ GE331.out | refine below_set ?_ GE338.out | refine below_set ?_ GE345.out | refine below_set ?_ GE353.out) | exact HB.out))) : w.heap.size ≤ gb399))
                 replace HB := Aside0.mk (below_step (by repeat (first | (with_reducible first | exact HB.out | apply below_alloc | apply pw_below_drewN | apply below_drew1 | refine below_set ?_ GE308.out | refine below_set ?_ GE309.out | refine below_set ?_ GE331.out | refine below_set ?_ GE338.out | refine below_set ?_ GE345.out | refine below_set ?_ GE353.out) | exact HB.out)) hb)
                 have NB308_399 := Aside0.mk ((by rw [hg]; exact Nat.ne_of_lt (blk_lt (g := gb308) (o := .cells #[.slice A0_0 l0_0.length c0_0, .slice A0_1 l0_1.length c0_1] 24 (0, 0)) (kU BK308.out)) : gb308 ≠ gb399))
                 have NB399_308 := Aside0.mk ((by rw [hg]; exact Nat.ne_of_gt (blk_lt (g := gb308) (o := .cells #[.slice A0_0 l0_0.length c0_0, .slice A0_1 l0_1.length c0_1] 24 (0, 0)) (kU BK308.out)) : gb399 ≠ gb308))
                 replace BK308 := Aside0.mk (blk_below (g := gb308) (o := .cells #[.slice A0_0 l0_0.length c0_0, .slice A0_1 l0_1.length c0_1] 24 (0, 0)) (kU BK308.out) hb)
                 have NB309_399 := Aside0.mk ((by rw [hg]; exact Nat.ne_of_lt (blk_lt (g := gb309) (o := .cells #[.slice A1_0 l1_0.length c1_0, .slice A1_1 l1_1.length c1_1] 24 (0, 0)) (kU BK309.out)) : gb309 ≠ gb399))
                 have NB399_309 := Aside0.mk ((by rw [hg]; exact Nat.ne_of_gt (blk_lt (g := gb309) (o := .cells #[.slice A1_0 l1_0.length c1_0, .slice A1_1 l1_1.length c1_1] 24 (0, 0)) (kU BK309.out)) : gb399 ≠ gb309))
                 replace BK309 := Aside0.mk (blk_below (g := gb309) (o := .cells #[.slice A1_0 l1_0.length c1_0, .slice A1_1 l1_1.length c1_1] 24 (0, 0)) (kU BK309.out) hb)
                 have NB331_399 := Aside0.mk ((by rw [hg]; exact Nat.ne_of_lt (blk_lt (g := gb331) (o := .cells #[.slice Ao43 t324.length co43, .slice Ao45 t327.length co45] 26 (0, 0)) (kU BK331.out)) : gb331 ≠ gb399))
                 have NB399_331 := Aside0.mk ((by rw [hg]; exact Nat.ne_of_gt (blk_lt (g := gb331) (o := .cells #[.slice Ao43 t324.length co43, .slice Ao45 t327.length co45] 26 (0, 0)) (kU BK331.out)) : gb399 ≠ gb331))
                 replace BK331 := Aside0.mk (blk_below (g := gb331) (o := .cells #[.slice Ao43 t324.length co43, .slice Ao45 t327.length co45] 26 (0, 0)) (kU BK331.out) hb)
                 have NB338_399 := Aside0.mk ((by rw [hg]; exact Nat.ne_of_lt (blk_lt (g := gb338) (o := .cells #[.slice Ao51 t370.length co51, .slice Ao56 t371.length co56] 26 (0, 0)) (kU BK338.out)) : gb338 ≠ gb399))
                 have NB399_338 := Aside0.mk ((by rw [hg]; exact Nat.ne_of_gt (blk_lt (g := gb338) (o := .cells #[.slice Ao51 t370.length co51, .slice Ao56 t371.length co56] 26 (0, 0)) (kU BK338.out)) : gb399 ≠ gb338))
                 replace BK338 := Aside0.mk (blk_below (g := gb338) (o := .cells #[.slice Ao51 t370.length co51, .slice Ao56 t371.length co56] 26 (0, 0)) (kU BK338.out) hb)
                 have NB345_399 := Aside0.mk ((by rw [hg]; exact Nat.ne_of_lt (blk_lt (g := gb345) (o := .cells #[.slice Ao61 t373.length co61, .slice Ao67 t374.length co67] 26 (0, 0)) (kU BK345.out)) : gb345 ≠ gb399))
                 have NB399_345 := Aside0.mk ((by rw [hg]; exact Nat.ne_of_gt (blk_lt (g := gb345) (o := .cells #[.slice Ao61 t373.length co61, .slice Ao67 t374.length co67] 26 (0, 0)) (kU BK345.out)) : gb399 ≠ gb345))
                 replace BK345 := Aside0.mk (blk_below (g := gb345) (o := .cells #[.slice Ao61 t373.length co61, .slice Ao67 t374.length co67] 26 (0, 0)) (kU BK345.out) hb)
                 have NB353_399 := Aside0.mk ((by rw [hg]; exact Nat.ne_of_lt (blk_lt (g := gb353) (o := .cells #[.slice Ao71 t346.length co71, .slice Ao78 t349.length co78] 26 (0, 0)) (kU BK353.out)) : gb353 ≠ gb399))
                 have NB399_353 := Aside0.mk ((by rw [hg]; exact Nat.ne_of_gt (blk_lt (g := gb353) (o := .cells #[.slice Ao71 t346.length co71, .slice Ao78 t349.length co78] 26 (0, 0)) (kU BK353.out)) : gb399 ≠ gb353))
                 replace BK353 := Aside0.mk (blk_below (g := gb353) (o := .cells #[.slice Ao71 t346.length co71, .slice Ao78 t349.length co78] 26 (0, 0)) (kU BK353.out) hb)
                 clear hb hbox hg
                 refine hK.out _ _ ⟨(blk_cell BK308.out 0).trans rfl, (blk_cell BK308.out 1).trans rfl, (blk_cell BK309.out 0).trans rfl, (blk_cell BK309.out 1).trans rfl⟩ (fun hHeld => ?_)
                 clear hK K
                 refine norm_ (a' := ?_) ?_ ?_
                 rotate_left
                 ·
                  show Act.put _ (some 15) _ = _
                  simp only [Act.put, List.setIfInBounds_toArray, List.set_cons_zero, List.set_cons_succ, i64_w, i32_w]
                  rfl
                 exact norm_ (by simp only [putAll, Act.put, List.setIfInBounds_toArray, List.set_cons_zero, List.set_cons_succ]) (hCont (.slice Ao162 t380.length co162, .slice Ao163 t383.length co163, .slice Ao164 t386.length co164, .slice Ao165 t389.length co165, v393, v396, gb399) _ ⟨hHeld, (by (with_reducible repeat (first | apply Kd.R_alloc | apply Kd.R_drewN | apply Kd.R_drew)); exact Kd.R_mono HO382.out (fun _ hk => ⟨hk.1.1.1.1.1.1.1.1.1.1.1.1, ⟨hk.1.1.1.2, ⟨hk.1.1.2, ⟨hk.1.2, ⟨hk.2, ⟨hk.1.1.1.1.1.1.1.1.1.1.1.2, ⟨hk.1.1.1.1.1.1.1.1.1.1.2, ⟨hk.1.1.1.1.1.1.1.1.1.2, ⟨hk.1.1.1.1.1.1.1.1.2, ⟨hk.1.1.1.1.1.1.1.2, ⟨hk.1.1.1.1.1.1.2, ⟨hk.1.1.1.1.1.2, hk.1.1.1.1.2⟩⟩⟩⟩⟩⟩⟩⟩⟩⟩⟩⟩)), (by (with_reducible repeat (first | apply Kd.R_alloc | apply Kd.R_drewN | apply Kd.R_drew)); exact Kd.R_mono HO385.out (fun _ hk => ⟨hk.1.1.1.1.1.1.1.1.1.1.1.1, ⟨hk.1.1.1.2, ⟨hk.1.1.2, ⟨hk.1.2, ⟨hk.2, ⟨hk.1.1.1.1.1.1.1.1.1.1.1.2, ⟨hk.1.1.1.1.1.1.1.1.1.1.2, ⟨hk.1.1.1.1.1.1.1.1.1.2, ⟨hk.1.1.1.1.1.1.1.1.2, ⟨hk.1.1.1.1.1.1.1.2, ⟨hk.1.1.1.1.1.1.2, ⟨hk.1.1.1.1.1.2, hk.1.1.1.1.2⟩⟩⟩⟩⟩⟩⟩⟩⟩⟩⟩⟩)), (by (with_reducible repeat (first | apply Kd.R_alloc | apply Kd.R_drewN | apply Kd.R_drew)); exact Kd.R_mono HO388.out (fun _ hk => ⟨hk.1.1.1.2, ⟨hk.1.1.2, ⟨hk.1.1.1.1.1.1.1.1.1.1.1.1, ⟨hk.1.2, ⟨hk.2, ⟨hk.1.1.1.1.1.1.1.1.1.1.1.2, ⟨hk.1.1.1.1.1.1.1.1.1.1.2, ⟨hk.1.1.1.1.1.1.1.1.1.2, ⟨hk.1.1.1.1.1.1.1.1.2, ⟨hk.1.1.1.1.1.1.1.2, ⟨hk.1.1.1.1.1.1.2, ⟨hk.1.1.1.1.1.2, hk.1.1.1.1.2⟩⟩⟩⟩⟩⟩⟩⟩⟩⟩⟩⟩)), (by (with_reducible repeat (first | apply Kd.R_alloc | apply Kd.R_drewN | apply Kd.R_drew)); exact Kd.R_mono HO391.out (fun _ hk => ⟨hk.1.1.1.2, ⟨hk.1.1.2, ⟨hk.1.1.1.1.1.1.1.1.1.1.1.1, ⟨hk.1.2, ⟨hk.2, ⟨hk.1.1.1.1.1.1.1.1.1.1.1.2, ⟨hk.1.1.1.1.1.1.1.1.1.1.2, ⟨hk.1.1.1.1.1.1.1.1.1.2, ⟨hk.1.1.1.1.1.1.1.1.2, ⟨hk.1.1.1.1.1.1.1.2, ⟨hk.1.1.1.1.1.1.2, ⟨hk.1.1.1.1.1.2, hk.1.1.1.1.2⟩⟩⟩⟩⟩⟩⟩⟩⟩⟩⟩⟩)), (by (with_reducible repeat (first | apply Kd.R_alloc | apply Kd.R_drewN | apply Kd.R_drew)); exact Kd.R_mono HO394.out (fun _ hk => ⟨hk.1.1.1.2, ⟨hk.1.1.2, ⟨hk.1.2, ⟨hk.2, ⟨hk.1.1.1.1.1.1.1.1.1.1.1.1, ⟨hk.1.1.1.1.1.1.1.1.1.1.1.2, ⟨hk.1.1.1.1.1.1.1.1.1.1.2, ⟨hk.1.1.1.1.1.1.1.1.1.2, ⟨hk.1.1.1.1.1.1.1.1.2, ⟨hk.1.1.1.1.1.1.1.2, ⟨hk.1.1.1.1.1.1.2, ⟨hk.1.1.1.1.1.2, hk.1.1.1.1.2⟩⟩⟩⟩⟩⟩⟩⟩⟩⟩⟩⟩)), (by (with_reducible repeat (first | apply Kd.R_alloc | apply Kd.R_drewN | apply Kd.R_drew)); exact Kd.R_mono HO397.out (fun _ hk => ⟨hk.1.1.1.2, ⟨hk.1.1.2, ⟨hk.1.2, ⟨hk.2, ⟨hk.1.1.1.1.1.1.1.1.1.1.1.1, ⟨hk.1.1.1.1.1.1.1.1.1.1.1.2, ⟨hk.1.1.1.1.1.1.1.1.1.1.2, ⟨hk.1.1.1.1.1.1.1.1.1.2, ⟨hk.1.1.1.1.1.1.1.1.2, ⟨hk.1.1.1.1.1.1.1.2, ⟨hk.1.1.1.1.1.1.2, ⟨hk.1.1.1.1.1.2, hk.1.1.1.1.2⟩⟩⟩⟩⟩⟩⟩⟩⟩⟩⟩⟩)), (by (with_reducible repeat (first | apply Kd.R_alloc | apply Kd.R_drewN | apply Kd.R_drew)); exact Kd.R_mono HO_332000.out (fun _ hk => ⟨hk.1.1.1.1.1.2, ⟨hk.1.1.1.1.2, ⟨hk.1.1.1.2, ⟨hk.1.1.2, ⟨hk.1.2, ⟨hk.2, ⟨hk.1.1.1.1.1.1.1, ⟨hk.1.1.1.1.1.1.2.1, ⟨hk.1.1.1.1.1.1.2.2.1, ⟨hk.1.1.1.1.1.1.2.2.2.1, ⟨hk.1.1.1.1.1.1.2.2.2.2.1, ⟨hk.1.1.1.1.1.1.2.2.2.2.2.1, hk.1.1.1.1.1.1.2.2.2.2.2.2⟩⟩⟩⟩⟩⟩⟩⟩⟩⟩⟩⟩)), (by (with_reducible repeat (first | apply Kd.R_alloc | apply Kd.R_drewN | apply Kd.R_drew)); exact Kd.R_mono HO_332001.out (fun _ hk => ⟨hk.1.1.1.1.1.2, ⟨hk.1.1.1.1.2, ⟨hk.1.1.1.2, ⟨hk.1.1.2, ⟨hk.1.2, ⟨hk.2, ⟨hk.1.1.1.1.1.1.1, ⟨hk.1.1.1.1.1.1.2.1, ⟨hk.1.1.1.1.1.1.2.2.1, ⟨hk.1.1.1.1.1.1.2.2.2.1, ⟨hk.1.1.1.1.1.1.2.2.2.2.1, ⟨hk.1.1.1.1.1.1.2.2.2.2.2.1, hk.1.1.1.1.1.1.2.2.2.2.2.2⟩⟩⟩⟩⟩⟩⟩⟩⟩⟩⟩⟩)), (by (with_reducible repeat (first | apply Kd.R_alloc | apply Kd.R_drewN | apply Kd.R_drew)); exact Kd.R_mono HO_339000.out (fun _ hk => ⟨hk.1.1.1.1.1.2, ⟨hk.1.1.1.1.2, ⟨hk.1.1.1.2, ⟨hk.1.1.2, ⟨hk.1.2, ⟨hk.2, ⟨hk.1.1.1.1.1.1.1, ⟨hk.1.1.1.1.1.1.2.1, ⟨hk.1.1.1.1.1.1.2.2.1, ⟨hk.1.1.1.1.1.1.2.2.2.1, ⟨hk.1.1.1.1.1.1.2.2.2.2.1, ⟨hk.1.1.1.1.1.1.2.2.2.2.2.1, hk.1.1.1.1.1.1.2.2.2.2.2.2⟩⟩⟩⟩⟩⟩⟩⟩⟩⟩⟩⟩)), (by (with_reducible repeat (first | apply Kd.R_alloc | apply Kd.R_drewN | apply Kd.R_drew)); exact Kd.R_mono HO_339001.out (fun _ hk => ⟨hk.1.1.1.1.1.2, ⟨hk.1.1.1.1.2, ⟨hk.1.1.1.2, ⟨hk.1.1.2, ⟨hk.1.2, ⟨hk.2, ⟨hk.1.1.1.1.1.1.1, ⟨hk.1.1.1.1.1.1.2.1, ⟨hk.1.1.1.1.1.1.2.2.1, ⟨hk.1.1.1.1.1.1.2.2.2.1, ⟨hk.1.1.1.1.1.1.2.2.2.2.1, ⟨hk.1.1.1.1.1.1.2.2.2.2.2.1, hk.1.1.1.1.1.1.2.2.2.2.2.2⟩⟩⟩⟩⟩⟩⟩⟩⟩⟩⟩⟩)), (by (with_reducible repeat (first | apply Kd.R_alloc | apply Kd.R_drewN | apply Kd.R_drew)); exact Kd.R_mono HO_346000.out (fun _ hk => ⟨hk.1.1.1.1.1.2, ⟨hk.1.1.1.1.2, ⟨hk.1.1.1.2, ⟨hk.1.1.2, ⟨hk.1.2, ⟨hk.2, ⟨hk.1.1.1.1.1.1.1, ⟨hk.1.1.1.1.1.1.2.1, ⟨hk.1.1.1.1.1.1.2.2.1, ⟨hk.1.1.1.1.1.1.2.2.2.1, ⟨hk.1.1.1.1.1.1.2.2.2.2.1, ⟨hk.1.1.1.1.1.1.2.2.2.2.2.1, hk.1.1.1.1.1.1.2.2.2.2.2.2⟩⟩⟩⟩⟩⟩⟩⟩⟩⟩⟩⟩)), (by (with_reducible repeat (first | apply Kd.R_alloc | apply Kd.R_drewN | apply Kd.R_drew)); exact Kd.R_mono HO_346001.out (fun _ hk => ⟨hk.1.1.1.1.1.2, ⟨hk.1.1.1.1.2, ⟨hk.1.1.1.2, ⟨hk.1.1.2, ⟨hk.1.2, ⟨hk.2, ⟨hk.1.1.1.1.1.1.1, ⟨hk.1.1.1.1.1.1.2.1, ⟨hk.1.1.1.1.1.1.2.2.1, ⟨hk.1.1.1.1.1.1.2.2.2.1, ⟨hk.1.1.1.1.1.1.2.2.2.2.1, ⟨hk.1.1.1.1.1.1.2.2.2.2.2.1, hk.1.1.1.1.1.1.2.2.2.2.2.2⟩⟩⟩⟩⟩⟩⟩⟩⟩⟩⟩⟩)), (by (with_reducible repeat (first | apply Kd.R_alloc | apply Kd.R_drewN | apply Kd.R_drew)); exact Kd.R_mono HO_354000.out (fun _ hk => ⟨hk.1.1.1.1.1.2, ⟨hk.1.1.1.1.2, ⟨hk.1.1.1.2, ⟨hk.1.1.2, ⟨hk.1.2, ⟨hk.2, ⟨hk.1.1.1.1.1.1.1, ⟨hk.1.1.1.1.1.1.2.1, ⟨hk.1.1.1.1.1.1.2.2.1, ⟨hk.1.1.1.1.1.1.2.2.2.1, ⟨hk.1.1.1.1.1.1.2.2.2.2.1, ⟨hk.1.1.1.1.1.1.2.2.2.2.2.1, hk.1.1.1.1.1.1.2.2.2.2.2.2⟩⟩⟩⟩⟩⟩⟩⟩⟩⟩⟩⟩)), (by (with_reducible repeat (first | apply Kd.R_alloc | apply Kd.R_drewN | apply Kd.R_drew)); exact Kd.R_mono HO_354001.out (fun _ hk => ⟨hk.1.1.1.1.1.2, ⟨hk.1.1.1.1.2, ⟨hk.1.1.1.2, ⟨hk.1.1.2, ⟨hk.1.2, ⟨hk.2, ⟨hk.1.1.1.1.1.1.1, ⟨hk.1.1.1.1.1.1.2.1, ⟨hk.1.1.1.1.1.1.2.2.1, ⟨hk.1.1.1.1.1.1.2.2.2.1, ⟨hk.1.1.1.1.1.1.2.2.2.2.1, ⟨hk.1.1.1.1.1.1.2.2.2.2.2.1, hk.1.1.1.1.1.1.2.2.2.2.2.2⟩⟩⟩⟩⟩⟩⟩⟩⟩⟩⟩⟩)), (kU BK308.out), (kU BK309.out), (kU BK331.out), (kU BK338.out), (kU BK345.out), (kU BK353.out), (kU BK399.out), GW399.out, GE399.out, NB308_399.out, NB399_308.out, NB309_399.out, NB399_309.out, NB331_399.out, NB399_331.out, NB338_399.out, NB399_338.out, NB345_399.out, NB399_345.out, NB353_399.out, NB399_353.out, (by repeat (first | (with_reducible first | exact HB.out | apply below_alloc | apply pw_below_drewN | apply below_drew1 | refine below_set ?_ GE308.out | refine below_set ?_ GE309.out | refine below_set ?_ GE331.out | refine below_set ?_ GE338.out | refine below_set ?_ GE345.out | refine below_set ?_ GE353.out | refine below_set ?_ GE399.out) | exact HB.out))⟩)
                ·
                 skip
                 refine box_step ?hg (N := 15) ?hd (cs := #[.slice none 0 0, .slice none 0 0]) (t := 26) ?hr ?_; (case hd => rfl); (case hg => rfl); (case hr => first | (go_simp; done) | (go_simp; rfl))
                 intro gb399 hg w162 hbox hb
                 replace HO_332000 := Aside0.mk (Kd.R_below (RU HO_332000.out) hb)
                 replace HO_332001 := Aside0.mk (Kd.R_below (RU HO_332001.out) hb)
                 replace HO_339000 := Aside0.mk (Kd.R_below (RU HO_339000.out) hb)
                 replace HO_339001 := Aside0.mk (Kd.R_below (RU HO_339001.out) hb)
                 replace HO_346000 := Aside0.mk (Kd.R_below (RU HO_346000.out) hb)
                 replace HO_346001 := Aside0.mk (Kd.R_below (RU HO_346001.out) hb)
                 replace HO_354000 := Aside0.mk (Kd.R_below (RU HO_354000.out) hb)
                 replace HO_354001 := Aside0.mk (Kd.R_below (RU HO_354001.out) hb)
                 replace HO382 := Aside0.mk (Kd.R_below (RU HO382.out) hb)
                 replace HO385 := Aside0.mk (Kd.R_below (RU HO385.out) hb)
                 replace HO388 := Aside0.mk (Kd.R_below (RU HO388.out) hb)
                 replace HO391 := Aside0.mk (Kd.R_below (RU HO391.out) hb)
                 have BK399 := Aside0.mk (hbox)
                 have GW399 := Aside0.mk ((by rw [hg]; exact (below_size (by repeat (first | (with_reducible first | exact HB.out | apply below_alloc | apply pw_below_drewN | apply below_drew1 | refine below_set ?_ GE308.out | refine below_set ?_ GE309.out | refine below_set ?_ GE331.out | refine below_set ?_ GE338.out | refine below_set ?_ GE345.out | refine below_set ?_ GE353.out) | exact HB.out))) : w.heap.size ≤ gb399))
                 have GE399 := Aside0.mk ((by rw [hg]; exact (below_size (by repeat (first | (with_reducible first | exact HB.out | apply below_alloc | apply pw_below_drewN | apply below_drew1 | refine below_set ?_ GE308.out | refine below_set ?_ GE309.out | refine below_set ?_ GE331.out | refine below_set ?_ GE338.out | refine below_set ?_ GE345.out | refine below_set ?_ GE353.out) | exact HB.out))) : w.heap.size ≤ gb399))
                 replace HB := Aside0.mk (below_step (by repeat (first | (with_reducible first | exact HB.out | apply below_alloc | apply pw_below_drewN | apply below_drew1 | refine below_set ?_ GE308.out | refine below_set ?_ GE309.out | refine below_set ?_ GE331.out | refine below_set ?_ GE338.out | refine below_set ?_ GE345.out | refine below_set ?_ GE353.out) | exact HB.out)) hb)
                 have NB308_399 := Aside0.mk ((by rw [hg]; exact Nat.ne_of_lt (blk_lt (g := gb308) (o := .cells #[.slice A0_0 l0_0.length c0_0, .slice A0_1 l0_1.length c0_1] 24 (0, 0)) (kU BK308.out)) : gb308 ≠ gb399))
                 have NB399_308 := Aside0.mk ((by rw [hg]; exact Nat.ne_of_gt (blk_lt (g := gb308) (o := .cells #[.slice A0_0 l0_0.length c0_0, .slice A0_1 l0_1.length c0_1] 24 (0, 0)) (kU BK308.out)) : gb399 ≠ gb308))
                 replace BK308 := Aside0.mk (blk_below (g := gb308) (o := .cells #[.slice A0_0 l0_0.length c0_0, .slice A0_1 l0_1.length c0_1] 24 (0, 0)) (kU BK308.out) hb)
                 have NB309_399 := Aside0.mk ((by rw [hg]; exact Nat.ne_of_lt (blk_lt (g := gb309) (o := .cells #[.slice A1_0 l1_0.length c1_0, .slice A1_1 l1_1.length c1_1] 24 (0, 0)) (kU BK309.out)) : gb309 ≠ gb399))
                 have NB399_309 := Aside0.mk ((by rw [hg]; exact Nat.ne_of_gt (blk_lt (g := gb309) (o := .cells #[.slice A1_0 l1_0.length c1_0, .slice A1_1 l1_1.length c1_1] 24 (0, 0)) (kU BK309.out)) : gb399 ≠ gb309))
                 replace BK309 := Aside0.mk (blk_below (g := gb309) (o := .cells #[.slice A1_0 l1_0.length c1_0, .slice A1_1 l1_1.length c1_1] 24 (0, 0)) (kU BK309.out) hb)
                 have NB331_399 := Aside0.mk ((by rw [hg]; exact Nat.ne_of_lt (blk_lt (g := gb331) (o := .cells #[.slice Ao43 t324.length co43, .slice Ao45 t327.length co45] 26 (0, 0)) (kU BK331.out)) : gb331 ≠ gb399))
                 have NB399_331 := Aside0.mk ((by rw [hg]; exact Nat.ne_of_gt (blk_lt (g := gb331) (o := .cells #[.slice Ao43 t324.length co43, .slice Ao45 t327.length co45] 26 (0, 0)) (kU BK331.out)) : gb399 ≠ gb331))
                 replace BK331 := Aside0.mk (blk_below (g := gb331) (o := .cells #[.slice Ao43 t324.length co43, .slice Ao45 t327.length co45] 26 (0, 0)) (kU BK331.out) hb)
                 have NB338_399 := Aside0.mk ((by rw [hg]; exact Nat.ne_of_lt (blk_lt (g := gb338) (o := .cells #[.slice Ao51 t370.length co51, .slice Ao56 t371.length co56] 26 (0, 0)) (kU BK338.out)) : gb338 ≠ gb399))
                 have NB399_338 := Aside0.mk ((by rw [hg]; exact Nat.ne_of_gt (blk_lt (g := gb338) (o := .cells #[.slice Ao51 t370.length co51, .slice Ao56 t371.length co56] 26 (0, 0)) (kU BK338.out)) : gb399 ≠ gb338))
                 replace BK338 := Aside0.mk (blk_below (g := gb338) (o := .cells #[.slice Ao51 t370.length co51, .slice Ao56 t371.length co56] 26 (0, 0)) (kU BK338.out) hb)
                 have NB345_399 := Aside0.mk ((by rw [hg]; exact Nat.ne_of_lt (blk_lt (g := gb345) (o := .cells #[.slice Ao61 t373.length co61, .slice Ao67 t374.length co67] 26 (0, 0)) (kU BK345.out)) : gb345 ≠ gb399))
                 have NB399_345 := Aside0.mk ((by rw [hg]; exact Nat.ne_of_gt (blk_lt (g := gb345) (o := .cells #[.slice Ao61 t373.length co61, .slice Ao67 t374.length co67] 26 (0, 0)) (kU BK345.out)) : gb399 ≠ gb345))
                 replace BK345 := Aside0.mk (blk_below (g := gb345) (o := .cells #[.slice Ao61 t373.length co61, .slice Ao67 t374.length co67] 26 (0, 0)) (kU BK345.out) hb)
                 have NB353_399 := Aside0.mk ((by rw [hg]; exact Nat.ne_of_lt (blk_lt (g := gb353) (o := .cells #[.slice Ao71 t346.length co71, .slice Ao78 t349.length co78] 26 (0, 0)) (kU BK353.out)) : gb353 ≠ gb399))
                 have NB399_353 := Aside0.mk ((by rw [hg]; exact Nat.ne_of_gt (blk_lt (g := gb353) (o := .cells #[.slice Ao71 t346.length co71, .slice Ao78 t349.length co78] 26 (0, 0)) (kU BK353.out)) : gb399 ≠ gb353))
                 replace BK353 := Aside0.mk (blk_below (g := gb353) (o := .cells #[.slice Ao71 t346.length co71, .slice Ao78 t349.length co78] 26 (0, 0)) (kU BK353.out) hb)
                 clear hb hbox hg
                 obtain ⟨Ao163, co163, eo163⟩ := Kd.R_slice HO382.out
                 (first | subst eo163 | (injection eo163 with f1_ f2_ f3_; have f4_ := f1_.symm; have f5_ := f3_.symm; clear f1_ f2_ f3_; subst f4_; subst f5_))
                 obtain ⟨Ao164, co164, eo164⟩ := Kd.R_slice HO385.out
                 (first | subst eo164 | (injection eo164 with f1_ f2_ f3_; have f4_ := f1_.symm; have f5_ := f3_.symm; clear f1_ f2_ f3_; subst f4_; subst f5_))
                 obtain ⟨Ao165, co165, eo165⟩ := Kd.R_slice HO388.out
                 (first | subst eo165 | (injection eo165 with f1_ f2_ f3_; have f4_ := f1_.symm; have f5_ := f3_.symm; clear f1_ f2_ f3_; subst f4_; subst f5_))
                 obtain ⟨Ao166, co166, eo166⟩ := Kd.R_slice HO391.out
                 (first | subst eo166 | (injection eo166 with f1_ f2_ f3_; have f4_ := f1_.symm; have f5_ := f3_.symm; clear f1_ f2_ f3_; subst f4_; subst f5_))
                 refine hK.out _ _ ⟨(blk_cell BK308.out 0).trans rfl, (blk_cell BK308.out 1).trans rfl, (blk_cell BK309.out 0).trans rfl, (blk_cell BK309.out 1).trans rfl⟩ (fun hHeld => ?_)
                 clear hK K
                 refine norm_ (a' := ?_) ?_ ?_
                 rotate_left
                 ·
                  show Act.put _ (some 15) _ = _
                  simp only [Act.put, List.setIfInBounds_toArray, List.set_cons_zero, List.set_cons_succ, i64_w, i32_w]
                  rfl
                 refine one_ (i := 4) (N := some 99) #[true, true, true, true, true, false, false, false, true, false, false] rfl rfl (one_of HT_.out (by kernel_rfl)) (by decide) (fun K hK => ?_)
                 refine goes_ Try.func40 (by kernel_rfl) rfl #[.agg #[.slice Ao163 t380.length co163, .slice Ao164 t383.length co164], .agg #[.slice Ao165 t386.length co165, .slice Ao166 t389.length co166]] (by rfl) rfl rfl (by (try simp only [List.map_toArray, List.map_cons, List.map_nil]); first | done | rfl | (simp only [List.length_drop, List.length_take]; rfl)) ?_
                 with_reducible refine (impl_Rotate.calls kj101 _ _ t380 _ _ t383 _ _ t386 _ _ t389 t392 t395 t398 _ ?side1 ?side2 ?side3 ?side4 ?side5 ?side6 ?side7 ?side8 A148.out).mono ?_
                 (case side1 => exact cU (Kd.R_reads' HO382.out).2.2)
                 (case side2 => exact (Kd.R_reads' HO382.out).2.1)
                 (case side3 => exact cU (Kd.R_reads' HO385.out).2.2)
                 (case side4 => exact (Kd.R_reads' HO385.out).2.1)
                 (case side5 => exact cU (Kd.R_reads' HO388.out).2.2)
                 (case side6 => exact (Kd.R_reads' HO388.out).2.1)
                 (case side7 => exact cU (Kd.R_reads' HO391.out).2.2)
                 (case side8 => exact (Kd.R_reads' HO391.out).2.1)
                 rintro e w167 ⟨v393, v396, rfl, ho0, ho1, hb⟩
                 refine ⟨_, rfl, ?_⟩
                 have HO394 := Aside0.mk (Kd.R_lower (Kd.R_new' (Kd.R_new' (Kd.R_new' (Kd.R_new' (Kd.R_new' (Kd.R_new' (Kd.R_new' (Kd.R_new' (Kd.R_new' (Kd.R_new' (Kd.R_new' (Kd.R_new' ho0 (Kd.R_lt (RU HO_332000.out))) (Kd.R_lt (RU HO_332001.out))) (Kd.R_lt (RU HO_339000.out))) (Kd.R_lt (RU HO_339001.out))) (Kd.R_lt (RU HO_346000.out))) (Kd.R_lt (RU HO_346001.out))) (Kd.R_lt (RU HO_354000.out))) (Kd.R_lt (RU HO_354001.out))) (Kd.R_lt (RU HO382.out))) (Kd.R_lt (RU HO385.out))) (Kd.R_lt (RU HO388.out))) (Kd.R_lt (RU HO391.out))) (below_size (by repeat (first | (with_reducible first | exact HB.out | apply below_alloc | apply pw_below_drewN | apply below_drew1 | refine below_set ?_ GE308.out | refine below_set ?_ GE309.out | refine below_set ?_ GE331.out | refine below_set ?_ GE338.out | refine below_set ?_ GE345.out | refine below_set ?_ GE353.out | refine below_set ?_ GE399.out) | exact HB.out))))
                 have HO397 := Aside0.mk (Kd.R_lower (Kd.R_new' (Kd.R_new' (Kd.R_new' (Kd.R_new' (Kd.R_new' (Kd.R_new' (Kd.R_new' (Kd.R_new' (Kd.R_new' (Kd.R_new' (Kd.R_new' (Kd.R_new' ho1 (Kd.R_lt (RU HO_332000.out))) (Kd.R_lt (RU HO_332001.out))) (Kd.R_lt (RU HO_339000.out))) (Kd.R_lt (RU HO_339001.out))) (Kd.R_lt (RU HO_346000.out))) (Kd.R_lt (RU HO_346001.out))) (Kd.R_lt (RU HO_354000.out))) (Kd.R_lt (RU HO_354001.out))) (Kd.R_lt (RU HO382.out))) (Kd.R_lt (RU HO385.out))) (Kd.R_lt (RU HO388.out))) (Kd.R_lt (RU HO391.out))) (below_size (by repeat (first | (with_reducible first | exact HB.out | apply below_alloc | apply pw_below_drewN | apply below_drew1 | refine below_set ?_ GE308.out | refine below_set ?_ GE309.out | refine below_set ?_ GE331.out | refine below_set ?_ GE338.out | refine below_set ?_ GE345.out | refine below_set ?_ GE353.out | refine below_set ?_ GE399.out) | exact HB.out))))
                 replace HO_332000 := Aside0.mk (Kd.R_mono (Kd.R_told (Kd.R_told (Kd.R_old (RU HO_332000.out) hb) (Kd.R_base ho0)) (Kd.R_base ho1)) (fun _ h_ => h_.1))
                 replace HO_332001 := Aside0.mk (Kd.R_mono (Kd.R_told (Kd.R_told (Kd.R_old (RU HO_332001.out) hb) (Kd.R_base ho0)) (Kd.R_base ho1)) (fun _ h_ => h_.1))
                 replace HO_339000 := Aside0.mk (Kd.R_mono (Kd.R_told (Kd.R_told (Kd.R_old (RU HO_339000.out) hb) (Kd.R_base ho0)) (Kd.R_base ho1)) (fun _ h_ => h_.1))
                 replace HO_339001 := Aside0.mk (Kd.R_mono (Kd.R_told (Kd.R_told (Kd.R_old (RU HO_339001.out) hb) (Kd.R_base ho0)) (Kd.R_base ho1)) (fun _ h_ => h_.1))
                 replace HO_346000 := Aside0.mk (Kd.R_mono (Kd.R_told (Kd.R_told (Kd.R_old (RU HO_346000.out) hb) (Kd.R_base ho0)) (Kd.R_base ho1)) (fun _ h_ => h_.1))
                 replace HO_346001 := Aside0.mk (Kd.R_mono (Kd.R_told (Kd.R_told (Kd.R_old (RU HO_346001.out) hb) (Kd.R_base ho0)) (Kd.R_base ho1)) (fun _ h_ => h_.1))
                 replace HO_354000 := Aside0.mk (Kd.R_mono (Kd.R_told (Kd.R_told (Kd.R_old (RU HO_354000.out) hb) (Kd.R_base ho0)) (Kd.R_base ho1)) (fun _ h_ => h_.1))
                 replace HO_354001 := Aside0.mk (Kd.R_mono (Kd.R_told (Kd.R_told (Kd.R_old (RU HO_354001.out) hb) (Kd.R_base ho0)) (Kd.R_base ho1)) (fun _ h_ => h_.1))
                 replace HO382 := Aside0.mk (Kd.R_mono (Kd.R_told (Kd.R_told (Kd.R_old (RU HO382.out) hb) (Kd.R_base ho0)) (Kd.R_base ho1)) (fun _ h_ => h_.1))
                 replace HO385 := Aside0.mk (Kd.R_mono (Kd.R_told (Kd.R_told (Kd.R_old (RU HO385.out) hb) (Kd.R_base ho0)) (Kd.R_base ho1)) (fun _ h_ => h_.1))
                 replace HO388 := Aside0.mk (Kd.R_mono (Kd.R_told (Kd.R_told (Kd.R_old (RU HO388.out) hb) (Kd.R_base ho0)) (Kd.R_base ho1)) (fun _ h_ => h_.1))
                 replace HO391 := Aside0.mk (Kd.R_mono (Kd.R_told (Kd.R_told (Kd.R_old (RU HO391.out) hb) (Kd.R_base ho0)) (Kd.R_base ho1)) (fun _ h_ => h_.1))
                 replace BK308 := Aside0.mk (blk_below (g := gb308) (o := .cells #[.slice A0_0 l0_0.length c0_0, .slice A0_1 l0_1.length c0_1] 24 (0, 0)) (kU BK308.out) hb)
                 replace BK309 := Aside0.mk (blk_below (g := gb309) (o := .cells #[.slice A1_0 l1_0.length c1_0, .slice A1_1 l1_1.length c1_1] 24 (0, 0)) (kU BK309.out) hb)
                 replace BK331 := Aside0.mk (blk_below (g := gb331) (o := .cells #[.slice Ao43 t324.length co43, .slice Ao45 t327.length co45] 26 (0, 0)) (kU BK331.out) hb)
                 replace BK338 := Aside0.mk (blk_below (g := gb338) (o := .cells #[.slice Ao51 t370.length co51, .slice Ao56 t371.length co56] 26 (0, 0)) (kU BK338.out) hb)
                 replace BK345 := Aside0.mk (blk_below (g := gb345) (o := .cells #[.slice Ao61 t373.length co61, .slice Ao67 t374.length co67] 26 (0, 0)) (kU BK345.out) hb)
                 replace BK353 := Aside0.mk (blk_below (g := gb353) (o := .cells #[.slice Ao71 t346.length co71, .slice Ao78 t349.length co78] 26 (0, 0)) (kU BK353.out) hb)
                 replace BK399 := Aside0.mk (blk_below (g := gb399) (o := .cells #[.slice none 0 0, .slice none 0 0] 26 (0, 0)) (kU BK399.out) hb)
                 replace HB := Aside0.mk (below_step (by repeat (first | (with_reducible first | exact HB.out | apply below_alloc | apply pw_below_drewN | apply below_drew1 | refine below_set ?_ GE308.out | refine below_set ?_ GE309.out | refine below_set ?_ GE331.out | refine below_set ?_ GE338.out | refine below_set ?_ GE345.out | refine below_set ?_ GE353.out | refine below_set ?_ GE399.out) | exact HB.out)) hb)
                 (try clear hb)
                 (try clear hb2)
                 (try clear hk)
                 (try clear hi)
                 (try clear ho0)
                 (try clear ho1)
                 refine hK.out _ _ ⟨(blk_cell BK308.out 0).trans rfl, (blk_cell BK308.out 1).trans rfl, (blk_cell BK309.out 0).trans rfl, (blk_cell BK309.out 1).trans rfl⟩ (fun hHeld => ?_)
                 clear hK K
                 refine norm_ (a' := ?_) ?_ ?_
                 rotate_left
                 ·
                  show Act.put _ (some 99) _ = _
                  simp only [Act.put, List.setIfInBounds_toArray, List.set_cons_zero, List.set_cons_succ, i64_w, i32_w]
                  rfl
                 refine pure_ (i := 5) (N := some 94) (v := ?_) (a' := ?_) #[true, true, true, true, true, true, false, false, true, false, false] rfl rfl (any_of HT_.out (by kernel_rfl)) (fun _ _ _ h => h) (Or.inl ⟨by rfl, ?_⟩) ?_ ?_
                 rotate_left
                 ·
                  intro w'
                  go_simp
                  with_reducible rfl
                 rotate_left
                 ·
                  simp only [Act.put, List.setIfInBounds_toArray, List.set_cons_zero, List.set_cons_succ, i64_w, i32_w]
                  rfl
                 refine pure_ (i := 6) (N := some 100) (v := ?_) (a' := ?_) #[true, true, true, true, true, true, true, false, true, false, false] rfl rfl (any_of HT_.out (by kernel_rfl)) (fun _ _ _ h => h) (Or.inl ⟨by rfl, ?_⟩) ?_ ?_
                 rotate_left
                 ·
                  intro w'
                  go_simp
                  with_reducible rfl
                 rotate_left
                 ·
                  simp only [Act.put, List.setIfInBounds_toArray, List.set_cons_zero, List.set_cons_succ, i64_w, i32_w]
                  rfl
                 refine pure_ (i := 7) (N := some 101) (v := ?_) (a' := ?_) #[true, true, true, true, true, true, true, true, true, false, false] rfl rfl (any_of HT_.out (by kernel_rfl)) (fun _ _ _ h => h) (Or.inl ⟨by rfl, ?_⟩) ?_ ?_
                 rotate_left
                 ·
                  intro w'
                  go_simp
                  with_reducible rfl
                 rotate_left
                 ·
                  simp only [Act.put, List.setIfInBounds_toArray, List.set_cons_zero, List.set_cons_succ, i64_w, i32_w]
                  rfl
                 exact norm_ (by simp only [putAll, Act.put, List.setIfInBounds_toArray, List.set_cons_zero, List.set_cons_succ]) (hCont (.slice Ao163 t380.length co163, .slice Ao164 t383.length co164, .slice Ao165 t386.length co165, .slice Ao166 t389.length co166, v393, v396, gb399) _ ⟨hHeld, (by (with_reducible repeat (first | apply Kd.R_alloc | apply Kd.R_drewN | apply Kd.R_drew)); exact Kd.R_mono HO382.out (fun _ hk => ⟨hk.1.1.1.1.1.1.1.1.1.1.1.1, ⟨hk.1.1.1.2, ⟨hk.1.1.2, ⟨hk.1.2, ⟨hk.2, ⟨hk.1.1.1.1.1.1.1.1.1.1.1.2, ⟨hk.1.1.1.1.1.1.1.1.1.1.2, ⟨hk.1.1.1.1.1.1.1.1.1.2, ⟨hk.1.1.1.1.1.1.1.1.2, ⟨hk.1.1.1.1.1.1.1.2, ⟨hk.1.1.1.1.1.1.2, ⟨hk.1.1.1.1.1.2, hk.1.1.1.1.2⟩⟩⟩⟩⟩⟩⟩⟩⟩⟩⟩⟩)), (by (with_reducible repeat (first | apply Kd.R_alloc | apply Kd.R_drewN | apply Kd.R_drew)); exact Kd.R_mono HO385.out (fun _ hk => ⟨hk.1.1.1.1.1.1.1.1.1.1.1.1, ⟨hk.1.1.1.2, ⟨hk.1.1.2, ⟨hk.1.2, ⟨hk.2, ⟨hk.1.1.1.1.1.1.1.1.1.1.1.2, ⟨hk.1.1.1.1.1.1.1.1.1.1.2, ⟨hk.1.1.1.1.1.1.1.1.1.2, ⟨hk.1.1.1.1.1.1.1.1.2, ⟨hk.1.1.1.1.1.1.1.2, ⟨hk.1.1.1.1.1.1.2, ⟨hk.1.1.1.1.1.2, hk.1.1.1.1.2⟩⟩⟩⟩⟩⟩⟩⟩⟩⟩⟩⟩)), (by (with_reducible repeat (first | apply Kd.R_alloc | apply Kd.R_drewN | apply Kd.R_drew)); exact Kd.R_mono HO388.out (fun _ hk => ⟨hk.1.1.1.2, ⟨hk.1.1.2, ⟨hk.1.1.1.1.1.1.1.1.1.1.1.1, ⟨hk.1.2, ⟨hk.2, ⟨hk.1.1.1.1.1.1.1.1.1.1.1.2, ⟨hk.1.1.1.1.1.1.1.1.1.1.2, ⟨hk.1.1.1.1.1.1.1.1.1.2, ⟨hk.1.1.1.1.1.1.1.1.2, ⟨hk.1.1.1.1.1.1.1.2, ⟨hk.1.1.1.1.1.1.2, ⟨hk.1.1.1.1.1.2, hk.1.1.1.1.2⟩⟩⟩⟩⟩⟩⟩⟩⟩⟩⟩⟩)), (by (with_reducible repeat (first | apply Kd.R_alloc | apply Kd.R_drewN | apply Kd.R_drew)); exact Kd.R_mono HO391.out (fun _ hk => ⟨hk.1.1.1.2, ⟨hk.1.1.2, ⟨hk.1.1.1.1.1.1.1.1.1.1.1.1, ⟨hk.1.2, ⟨hk.2, ⟨hk.1.1.1.1.1.1.1.1.1.1.1.2, ⟨hk.1.1.1.1.1.1.1.1.1.1.2, ⟨hk.1.1.1.1.1.1.1.1.1.2, ⟨hk.1.1.1.1.1.1.1.1.2, ⟨hk.1.1.1.1.1.1.1.2, ⟨hk.1.1.1.1.1.1.2, ⟨hk.1.1.1.1.1.2, hk.1.1.1.1.2⟩⟩⟩⟩⟩⟩⟩⟩⟩⟩⟩⟩)), (by (with_reducible repeat (first | apply Kd.R_alloc | apply Kd.R_drewN | apply Kd.R_drew)); exact Kd.R_mono HO394.out (fun _ hk => ⟨hk.1.1.1.2, ⟨hk.1.1.2, ⟨hk.1.2, ⟨hk.2, ⟨hk.1.1.1.1.1.1.1.1.1.1.1.1, ⟨hk.1.1.1.1.1.1.1.1.1.1.1.2, ⟨hk.1.1.1.1.1.1.1.1.1.1.2, ⟨hk.1.1.1.1.1.1.1.1.1.2, ⟨hk.1.1.1.1.1.1.1.1.2, ⟨hk.1.1.1.1.1.1.1.2, ⟨hk.1.1.1.1.1.1.2, ⟨hk.1.1.1.1.1.2, hk.1.1.1.1.2⟩⟩⟩⟩⟩⟩⟩⟩⟩⟩⟩⟩)), (by (with_reducible repeat (first | apply Kd.R_alloc | apply Kd.R_drewN | apply Kd.R_drew)); exact Kd.R_mono HO397.out (fun _ hk => ⟨hk.1.1.1.2, ⟨hk.1.1.2, ⟨hk.1.2, ⟨hk.2, ⟨hk.1.1.1.1.1.1.1.1.1.1.1.1, ⟨hk.1.1.1.1.1.1.1.1.1.1.1.2, ⟨hk.1.1.1.1.1.1.1.1.1.1.2, ⟨hk.1.1.1.1.1.1.1.1.1.2, ⟨hk.1.1.1.1.1.1.1.1.2, ⟨hk.1.1.1.1.1.1.1.2, ⟨hk.1.1.1.1.1.1.2, ⟨hk.1.1.1.1.1.2, hk.1.1.1.1.2⟩⟩⟩⟩⟩⟩⟩⟩⟩⟩⟩⟩)), (by (with_reducible repeat (first | apply Kd.R_alloc | apply Kd.R_drewN | apply Kd.R_drew)); exact Kd.R_mono HO_332000.out (fun _ hk => ⟨hk.1.1.1.1.1.2, ⟨hk.1.1.1.1.2, ⟨hk.1.1.1.2, ⟨hk.1.1.2, ⟨hk.1.2, ⟨hk.2, ⟨hk.1.1.1.1.1.1.1, ⟨hk.1.1.1.1.1.1.2.1, ⟨hk.1.1.1.1.1.1.2.2.1, ⟨hk.1.1.1.1.1.1.2.2.2.1, ⟨hk.1.1.1.1.1.1.2.2.2.2.1, ⟨hk.1.1.1.1.1.1.2.2.2.2.2.1, hk.1.1.1.1.1.1.2.2.2.2.2.2⟩⟩⟩⟩⟩⟩⟩⟩⟩⟩⟩⟩)), (by (with_reducible repeat (first | apply Kd.R_alloc | apply Kd.R_drewN | apply Kd.R_drew)); exact Kd.R_mono HO_332001.out (fun _ hk => ⟨hk.1.1.1.1.1.2, ⟨hk.1.1.1.1.2, ⟨hk.1.1.1.2, ⟨hk.1.1.2, ⟨hk.1.2, ⟨hk.2, ⟨hk.1.1.1.1.1.1.1, ⟨hk.1.1.1.1.1.1.2.1, ⟨hk.1.1.1.1.1.1.2.2.1, ⟨hk.1.1.1.1.1.1.2.2.2.1, ⟨hk.1.1.1.1.1.1.2.2.2.2.1, ⟨hk.1.1.1.1.1.1.2.2.2.2.2.1, hk.1.1.1.1.1.1.2.2.2.2.2.2⟩⟩⟩⟩⟩⟩⟩⟩⟩⟩⟩⟩)), (by (with_reducible repeat (first | apply Kd.R_alloc | apply Kd.R_drewN | apply Kd.R_drew)); exact Kd.R_mono HO_339000.out (fun _ hk => ⟨hk.1.1.1.1.1.2, ⟨hk.1.1.1.1.2, ⟨hk.1.1.1.2, ⟨hk.1.1.2, ⟨hk.1.2, ⟨hk.2, ⟨hk.1.1.1.1.1.1.1, ⟨hk.1.1.1.1.1.1.2.1, ⟨hk.1.1.1.1.1.1.2.2.1, ⟨hk.1.1.1.1.1.1.2.2.2.1, ⟨hk.1.1.1.1.1.1.2.2.2.2.1, ⟨hk.1.1.1.1.1.1.2.2.2.2.2.1, hk.1.1.1.1.1.1.2.2.2.2.2.2⟩⟩⟩⟩⟩⟩⟩⟩⟩⟩⟩⟩)), (by (with_reducible repeat (first | apply Kd.R_alloc | apply Kd.R_drewN | apply Kd.R_drew)); exact Kd.R_mono HO_339001.out (fun _ hk => ⟨hk.1.1.1.1.1.2, ⟨hk.1.1.1.1.2, ⟨hk.1.1.1.2, ⟨hk.1.1.2, ⟨hk.1.2, ⟨hk.2, ⟨hk.1.1.1.1.1.1.1, ⟨hk.1.1.1.1.1.1.2.1, ⟨hk.1.1.1.1.1.1.2.2.1, ⟨hk.1.1.1.1.1.1.2.2.2.1, ⟨hk.1.1.1.1.1.1.2.2.2.2.1, ⟨hk.1.1.1.1.1.1.2.2.2.2.2.1, hk.1.1.1.1.1.1.2.2.2.2.2.2⟩⟩⟩⟩⟩⟩⟩⟩⟩⟩⟩⟩)), (by (with_reducible repeat (first | apply Kd.R_alloc | apply Kd.R_drewN | apply Kd.R_drew)); exact Kd.R_mono HO_346000.out (fun _ hk => ⟨hk.1.1.1.1.1.2, ⟨hk.1.1.1.1.2, ⟨hk.1.1.1.2, ⟨hk.1.1.2, ⟨hk.1.2, ⟨hk.2, ⟨hk.1.1.1.1.1.1.1, ⟨hk.1.1.1.1.1.1.2.1, ⟨hk.1.1.1.1.1.1.2.2.1, ⟨hk.1.1.1.1.1.1.2.2.2.1, ⟨hk.1.1.1.1.1.1.2.2.2.2.1, ⟨hk.1.1.1.1.1.1.2.2.2.2.2.1, hk.1.1.1.1.1.1.2.2.2.2.2.2⟩⟩⟩⟩⟩⟩⟩⟩⟩⟩⟩⟩)), (by (with_reducible repeat (first | apply Kd.R_alloc | apply Kd.R_drewN | apply Kd.R_drew)); exact Kd.R_mono HO_346001.out (fun _ hk => ⟨hk.1.1.1.1.1.2, ⟨hk.1.1.1.1.2, ⟨hk.1.1.1.2, ⟨hk.1.1.2, ⟨hk.1.2, ⟨hk.2, ⟨hk.1.1.1.1.1.1.1, ⟨hk.1.1.1.1.1.1.2.1, ⟨hk.1.1.1.1.1.1.2.2.1, ⟨hk.1.1.1.1.1.1.2.2.2.1, ⟨hk.1.1.1.1.1.1.2.2.2.2.1, ⟨hk.1.1.1.1.1.1.2.2.2.2.2.1, hk.1.1.1.1.1.1.2.2.2.2.2.2⟩⟩⟩⟩⟩⟩⟩⟩⟩⟩⟩⟩)), (by (with_reducible repeat (first | apply Kd.R_alloc | apply Kd.R_drewN | apply Kd.R_drew)); exact Kd.R_mono HO_354000.out (fun _ hk => ⟨hk.1.1.1.1.1.2, ⟨hk.1.1.1.1.2, ⟨hk.1.1.1.2, ⟨hk.1.1.2, ⟨hk.1.2, ⟨hk.2, ⟨hk.1.1.1.1.1.1.1, ⟨hk.1.1.1.1.1.1.2.1, ⟨hk.1.1.1.1.1.1.2.2.1, ⟨hk.1.1.1.1.1.1.2.2.2.1, ⟨hk.1.1.1.1.1.1.2.2.2.2.1, ⟨hk.1.1.1.1.1.1.2.2.2.2.2.1, hk.1.1.1.1.1.1.2.2.2.2.2.2⟩⟩⟩⟩⟩⟩⟩⟩⟩⟩⟩⟩)), (by (with_reducible repeat (first | apply Kd.R_alloc | apply Kd.R_drewN | apply Kd.R_drew)); exact Kd.R_mono HO_354001.out (fun _ hk => ⟨hk.1.1.1.1.1.2, ⟨hk.1.1.1.1.2, ⟨hk.1.1.1.2, ⟨hk.1.1.2, ⟨hk.1.2, ⟨hk.2, ⟨hk.1.1.1.1.1.1.1, ⟨hk.1.1.1.1.1.1.2.1, ⟨hk.1.1.1.1.1.1.2.2.1, ⟨hk.1.1.1.1.1.1.2.2.2.1, ⟨hk.1.1.1.1.1.1.2.2.2.2.1, ⟨hk.1.1.1.1.1.1.2.2.2.2.2.1, hk.1.1.1.1.1.1.2.2.2.2.2.2⟩⟩⟩⟩⟩⟩⟩⟩⟩⟩⟩⟩)), (kU BK308.out), (kU BK309.out), (kU BK331.out), (kU BK338.out), (kU BK345.out), (kU BK353.out), (kU BK399.out), GW399.out, GE399.out, NB308_399.out, NB399_308.out, NB309_399.out, NB399_309.out, NB331_399.out, NB399_331.out, NB338_399.out, NB399_338.out, NB345_399.out, NB399_345.out, NB353_399.out, NB399_353.out, (by repeat (first | (with_reducible first | exact HB.out | apply below_alloc | apply pw_below_drewN | apply below_drew1 | refine below_set ?_ GE308.out | refine below_set ?_ GE309.out | refine below_set ?_ GE331.out | refine below_set ?_ GE338.out | refine below_set ?_ GE345.out | refine below_set ?_ GE353.out | refine below_set ?_ GE399.out) | exact HB.out))⟩)
               ·
                skip
                refine box_step ?hg (N := 15) ?hd (cs := #[.slice none 0 0, .slice none 0 0]) (t := 26) ?hr ?_; (case hd => rfl); (case hg => rfl); (case hr => first | (go_simp; done) | (go_simp; rfl))
                intro gb399 hg w161 hbox hb
                replace HO_332000 := Aside0.mk (Kd.R_below (RU HO_332000.out) hb)
                replace HO_332001 := Aside0.mk (Kd.R_below (RU HO_332001.out) hb)
                replace HO_339000 := Aside0.mk (Kd.R_below (RU HO_339000.out) hb)
                replace HO_339001 := Aside0.mk (Kd.R_below (RU HO_339001.out) hb)
                replace HO_346000 := Aside0.mk (Kd.R_below (RU HO_346000.out) hb)
                replace HO_346001 := Aside0.mk (Kd.R_below (RU HO_346001.out) hb)
                replace HO_354000 := Aside0.mk (Kd.R_below (RU HO_354000.out) hb)
                replace HO_354001 := Aside0.mk (Kd.R_below (RU HO_354001.out) hb)
                replace HO382 := Aside0.mk (Kd.R_below (RU HO382.out) hb)
                replace HO385 := Aside0.mk (Kd.R_below (RU HO385.out) hb)
                have BK399 := Aside0.mk (hbox)
                have GW399 := Aside0.mk ((by rw [hg]; exact (below_size (by repeat (first | (with_reducible first | exact HB.out | apply below_alloc | apply pw_below_drewN | apply below_drew1 | refine below_set ?_ GE308.out | refine below_set ?_ GE309.out | refine below_set ?_ GE331.out | refine below_set ?_ GE338.out | refine below_set ?_ GE345.out | refine below_set ?_ GE353.out) | exact HB.out))) : w.heap.size ≤ gb399))
                have GE399 := Aside0.mk ((by rw [hg]; exact (below_size (by repeat (first | (with_reducible first | exact HB.out | apply below_alloc | apply pw_below_drewN | apply below_drew1 | refine below_set ?_ GE308.out | refine below_set ?_ GE309.out | refine below_set ?_ GE331.out | refine below_set ?_ GE338.out | refine below_set ?_ GE345.out | refine below_set ?_ GE353.out) | exact HB.out))) : w.heap.size ≤ gb399))
                replace HB := Aside0.mk (below_step (by repeat (first | (with_reducible first | exact HB.out | apply below_alloc | apply pw_below_drewN | apply below_drew1 | refine below_set ?_ GE308.out | refine below_set ?_ GE309.out | refine below_set ?_ GE331.out | refine below_set ?_ GE338.out | refine below_set ?_ GE345.out | refine below_set ?_ GE353.out) | exact HB.out)) hb)
                have NB308_399 := Aside0.mk ((by rw [hg]; exact Nat.ne_of_lt (blk_lt (g := gb308) (o := .cells #[.slice A0_0 l0_0.length c0_0, .slice A0_1 l0_1.length c0_1] 24 (0, 0)) (kU BK308.out)) : gb308 ≠ gb399))
                have NB399_308 := Aside0.mk ((by rw [hg]; exact Nat.ne_of_gt (blk_lt (g := gb308) (o := .cells #[.slice A0_0 l0_0.length c0_0, .slice A0_1 l0_1.length c0_1] 24 (0, 0)) (kU BK308.out)) : gb399 ≠ gb308))
                replace BK308 := Aside0.mk (blk_below (g := gb308) (o := .cells #[.slice A0_0 l0_0.length c0_0, .slice A0_1 l0_1.length c0_1] 24 (0, 0)) (kU BK308.out) hb)
                have NB309_399 := Aside0.mk ((by rw [hg]; exact Nat.ne_of_lt (blk_lt (g := gb309) (o := .cells #[.slice A1_0 l1_0.length c1_0, .slice A1_1 l1_1.length c1_1] 24 (0, 0)) (kU BK309.out)) : gb309 ≠ gb399))
                have NB399_309 := Aside0.mk ((by rw [hg]; exact Nat.ne_of_gt (blk_lt (g := gb309) (o := .cells #[.slice A1_0 l1_0.length c1_0, .slice A1_1 l1_1.length c1_1] 24 (0, 0)) (kU BK309.out)) : gb399 ≠ gb309))
                replace BK309 := Aside0.mk (blk_below (g := gb309) (o := .cells #[.slice A1_0 l1_0.length c1_0, .slice A1_1 l1_1.length c1_1] 24 (0, 0)) (kU BK309.out) hb)
                have NB331_399 := Aside0.mk ((by rw [hg]; exact Nat.ne_of_lt (blk_lt (g := gb331) (o := .cells #[.slice Ao43 t324.length co43, .slice Ao45 t327.length co45] 26 (0, 0)) (kU BK331.out)) : gb331 ≠ gb399))
                have NB399_331 := Aside0.mk ((by rw [hg]; exact Nat.ne_of_gt (blk_lt (g := gb331) (o := .cells #[.slice Ao43 t324.length co43, .slice Ao45 t327.length co45] 26 (0, 0)) (kU BK331.out)) : gb399 ≠ gb331))
                replace BK331 := Aside0.mk (blk_below (g := gb331) (o := .cells #[.slice Ao43 t324.length co43, .slice Ao45 t327.length co45] 26 (0, 0)) (kU BK331.out) hb)
                have NB338_399 := Aside0.mk ((by rw [hg]; exact Nat.ne_of_lt (blk_lt (g := gb338) (o := .cells #[.slice Ao51 t370.length co51, .slice Ao56 t371.length co56] 26 (0, 0)) (kU BK338.out)) : gb338 ≠ gb399))
                have NB399_338 := Aside0.mk ((by rw [hg]; exact Nat.ne_of_gt (blk_lt (g := gb338) (o := .cells #[.slice Ao51 t370.length co51, .slice Ao56 t371.length co56] 26 (0, 0)) (kU BK338.out)) : gb399 ≠ gb338))
                replace BK338 := Aside0.mk (blk_below (g := gb338) (o := .cells #[.slice Ao51 t370.length co51, .slice Ao56 t371.length co56] 26 (0, 0)) (kU BK338.out) hb)
                have NB345_399 := Aside0.mk ((by rw [hg]; exact Nat.ne_of_lt (blk_lt (g := gb345) (o := .cells #[.slice Ao61 t373.length co61, .slice Ao67 t374.length co67] 26 (0, 0)) (kU BK345.out)) : gb345 ≠ gb399))
                have NB399_345 := Aside0.mk ((by rw [hg]; exact Nat.ne_of_gt (blk_lt (g := gb345) (o := .cells #[.slice Ao61 t373.length co61, .slice Ao67 t374.length co67] 26 (0, 0)) (kU BK345.out)) : gb399 ≠ gb345))
                replace BK345 := Aside0.mk (blk_below (g := gb345) (o := .cells #[.slice Ao61 t373.length co61, .slice Ao67 t374.length co67] 26 (0, 0)) (kU BK345.out) hb)
                have NB353_399 := Aside0.mk ((by rw [hg]; exact Nat.ne_of_lt (blk_lt (g := gb353) (o := .cells #[.slice Ao71 t346.length co71, .slice Ao78 t349.length co78] 26 (0, 0)) (kU BK353.out)) : gb353 ≠ gb399))
                have NB399_353 := Aside0.mk ((by rw [hg]; exact Nat.ne_of_gt (blk_lt (g := gb353) (o := .cells #[.slice Ao71 t346.length co71, .slice Ao78 t349.length co78] 26 (0, 0)) (kU BK353.out)) : gb399 ≠ gb353))
                replace BK353 := Aside0.mk (blk_below (g := gb353) (o := .cells #[.slice Ao71 t346.length co71, .slice Ao78 t349.length co78] 26 (0, 0)) (kU BK353.out) hb)
                clear hb hbox hg
                refine hK.out _ _ ⟨(blk_cell BK308.out 0).trans rfl, (blk_cell BK308.out 1).trans rfl, (blk_cell BK309.out 0).trans rfl, (blk_cell BK309.out 1).trans rfl⟩ (fun hHeld => ?_)
                clear hK K
                refine norm_ (a' := ?_) ?_ ?_
                rotate_left
                ·
                 show Act.put _ (some 15) _ = _
                 simp only [Act.put, List.setIfInBounds_toArray, List.set_cons_zero, List.set_cons_succ, i64_w, i32_w]
                 rfl
                refine one_ (i := 3) (N := some 98) #[true, true, true, true, false, false, false, false, true, false, false] rfl rfl (one_of HT_.out (by kernel_rfl)) (by decide) (fun K hK => ?_)
                refine goes_ Try.func17 (by kernel_rfl) rfl #[.agg #[.slice A1_0 l1_0.length c1_0, .slice A1_1 l1_1.length c1_1]] (by rfl) rfl rfl (by (try simp only [List.map_toArray, List.map_cons, List.map_nil]); first | done | rfl | (simp only [List.length_drop, List.length_take]; rfl)) ?_
                with_reducible refine (laws_toArray.calls kj101 _ _ l1_0 _ _ l1_1 t386 t389 _ ?side1 ?side2 ?side3 ?side4 A147.out).mono ?_
                (case side1 => exact cU (Kd.C_below HR1_0.out HB.out))
                (case side2 => exact HC1_0.out)
                (case side3 => exact cU (Kd.C_below HR1_1.out HB.out))
                (case side4 => exact HC1_1.out)
                rintro e w162 ⟨v387, v390, rfl, ho0, ho1, hb⟩
                refine ⟨_, rfl, ?_⟩
                have HO388 := Aside0.mk (Kd.R_lower (Kd.R_new' (Kd.R_new' (Kd.R_new' (Kd.R_new' (Kd.R_new' (Kd.R_new' (Kd.R_new' (Kd.R_new' (Kd.R_new' (Kd.R_new' ho0 (Kd.R_lt (RU HO_332000.out))) (Kd.R_lt (RU HO_332001.out))) (Kd.R_lt (RU HO_339000.out))) (Kd.R_lt (RU HO_339001.out))) (Kd.R_lt (RU HO_346000.out))) (Kd.R_lt (RU HO_346001.out))) (Kd.R_lt (RU HO_354000.out))) (Kd.R_lt (RU HO_354001.out))) (Kd.R_lt (RU HO382.out))) (Kd.R_lt (RU HO385.out))) (below_size (by repeat (first | (with_reducible first | exact HB.out | apply below_alloc | apply pw_below_drewN | apply below_drew1 | refine below_set ?_ GE308.out | refine below_set ?_ GE309.out | refine below_set ?_ GE331.out | refine below_set ?_ GE338.out | refine below_set ?_ GE345.out | refine below_set ?_ GE353.out | refine below_set ?_ GE399.out) | exact HB.out))))
                have HO391 := Aside0.mk (Kd.R_lower (Kd.R_new' (Kd.R_new' (Kd.R_new' (Kd.R_new' (Kd.R_new' (Kd.R_new' (Kd.R_new' (Kd.R_new' (Kd.R_new' (Kd.R_new' ho1 (Kd.R_lt (RU HO_332000.out))) (Kd.R_lt (RU HO_332001.out))) (Kd.R_lt (RU HO_339000.out))) (Kd.R_lt (RU HO_339001.out))) (Kd.R_lt (RU HO_346000.out))) (Kd.R_lt (RU HO_346001.out))) (Kd.R_lt (RU HO_354000.out))) (Kd.R_lt (RU HO_354001.out))) (Kd.R_lt (RU HO382.out))) (Kd.R_lt (RU HO385.out))) (below_size (by repeat (first | (with_reducible first | exact HB.out | apply below_alloc | apply pw_below_drewN | apply below_drew1 | refine below_set ?_ GE308.out | refine below_set ?_ GE309.out | refine below_set ?_ GE331.out | refine below_set ?_ GE338.out | refine below_set ?_ GE345.out | refine below_set ?_ GE353.out | refine below_set ?_ GE399.out) | exact HB.out))))
                replace HO_332000 := Aside0.mk (Kd.R_mono (Kd.R_told (Kd.R_told (Kd.R_old (RU HO_332000.out) hb) (Kd.R_base ho0)) (Kd.R_base ho1)) (fun _ h_ => h_.1))
                replace HO_332001 := Aside0.mk (Kd.R_mono (Kd.R_told (Kd.R_told (Kd.R_old (RU HO_332001.out) hb) (Kd.R_base ho0)) (Kd.R_base ho1)) (fun _ h_ => h_.1))
                replace HO_339000 := Aside0.mk (Kd.R_mono (Kd.R_told (Kd.R_told (Kd.R_old (RU HO_339000.out) hb) (Kd.R_base ho0)) (Kd.R_base ho1)) (fun _ h_ => h_.1))
                replace HO_339001 := Aside0.mk (Kd.R_mono (Kd.R_told (Kd.R_told (Kd.R_old (RU HO_339001.out) hb) (Kd.R_base ho0)) (Kd.R_base ho1)) (fun _ h_ => h_.1))
                replace HO_346000 := Aside0.mk (Kd.R_mono (Kd.R_told (Kd.R_told (Kd.R_old (RU HO_346000.out) hb) (Kd.R_base ho0)) (Kd.R_base ho1)) (fun _ h_ => h_.1))
                replace HO_346001 := Aside0.mk (Kd.R_mono (Kd.R_told (Kd.R_told (Kd.R_old (RU HO_346001.out) hb) (Kd.R_base ho0)) (Kd.R_base ho1)) (fun _ h_ => h_.1))
                replace HO_354000 := Aside0.mk (Kd.R_mono (Kd.R_told (Kd.R_told (Kd.R_old (RU HO_354000.out) hb) (Kd.R_base ho0)) (Kd.R_base ho1)) (fun _ h_ => h_.1))
                replace HO_354001 := Aside0.mk (Kd.R_mono (Kd.R_told (Kd.R_told (Kd.R_old (RU HO_354001.out) hb) (Kd.R_base ho0)) (Kd.R_base ho1)) (fun _ h_ => h_.1))
                replace HO382 := Aside0.mk (Kd.R_mono (Kd.R_told (Kd.R_told (Kd.R_old (RU HO382.out) hb) (Kd.R_base ho0)) (Kd.R_base ho1)) (fun _ h_ => h_.1))
                replace HO385 := Aside0.mk (Kd.R_mono (Kd.R_told (Kd.R_told (Kd.R_old (RU HO385.out) hb) (Kd.R_base ho0)) (Kd.R_base ho1)) (fun _ h_ => h_.1))
                replace BK308 := Aside0.mk (blk_below (g := gb308) (o := .cells #[.slice A0_0 l0_0.length c0_0, .slice A0_1 l0_1.length c0_1] 24 (0, 0)) (kU BK308.out) hb)
                replace BK309 := Aside0.mk (blk_below (g := gb309) (o := .cells #[.slice A1_0 l1_0.length c1_0, .slice A1_1 l1_1.length c1_1] 24 (0, 0)) (kU BK309.out) hb)
                replace BK331 := Aside0.mk (blk_below (g := gb331) (o := .cells #[.slice Ao43 t324.length co43, .slice Ao45 t327.length co45] 26 (0, 0)) (kU BK331.out) hb)
                replace BK338 := Aside0.mk (blk_below (g := gb338) (o := .cells #[.slice Ao51 t370.length co51, .slice Ao56 t371.length co56] 26 (0, 0)) (kU BK338.out) hb)
                replace BK345 := Aside0.mk (blk_below (g := gb345) (o := .cells #[.slice Ao61 t373.length co61, .slice Ao67 t374.length co67] 26 (0, 0)) (kU BK345.out) hb)
                replace BK353 := Aside0.mk (blk_below (g := gb353) (o := .cells #[.slice Ao71 t346.length co71, .slice Ao78 t349.length co78] 26 (0, 0)) (kU BK353.out) hb)
                replace BK399 := Aside0.mk (blk_below (g := gb399) (o := .cells #[.slice none 0 0, .slice none 0 0] 26 (0, 0)) (kU BK399.out) hb)
                replace HB := Aside0.mk (below_step (by repeat (first | (with_reducible first | exact HB.out | apply below_alloc | apply pw_below_drewN | apply below_drew1 | refine below_set ?_ GE308.out | refine below_set ?_ GE309.out | refine below_set ?_ GE331.out | refine below_set ?_ GE338.out | refine below_set ?_ GE345.out | refine below_set ?_ GE353.out | refine below_set ?_ GE399.out) | exact HB.out)) hb)
                (try clear hb)
                (try clear hb2)
                (try clear hk)
                (try clear hi)
                (try clear ho0)
                (try clear ho1)
                obtain ⟨Ao163, co163, eo163⟩ := Kd.R_slice HO382.out
                (first | subst eo163 | (injection eo163 with f1_ f2_ f3_; have f4_ := f1_.symm; have f5_ := f3_.symm; clear f1_ f2_ f3_; subst f4_; subst f5_))
                obtain ⟨Ao164, co164, eo164⟩ := Kd.R_slice HO385.out
                (first | subst eo164 | (injection eo164 with f1_ f2_ f3_; have f4_ := f1_.symm; have f5_ := f3_.symm; clear f1_ f2_ f3_; subst f4_; subst f5_))
                obtain ⟨Ao165, co165, eo165⟩ := Kd.R_slice HO388.out
                (first | subst eo165 | (injection eo165 with f1_ f2_ f3_; have f4_ := f1_.symm; have f5_ := f3_.symm; clear f1_ f2_ f3_; subst f4_; subst f5_))
                obtain ⟨Ao166, co166, eo166⟩ := Kd.R_slice HO391.out
                (first | subst eo166 | (injection eo166 with f1_ f2_ f3_; have f4_ := f1_.symm; have f5_ := f3_.symm; clear f1_ f2_ f3_; subst f4_; subst f5_))
                refine hK.out _ _ ⟨(blk_cell BK308.out 0).trans rfl, (blk_cell BK308.out 1).trans rfl, (blk_cell BK309.out 0).trans rfl, (blk_cell BK309.out 1).trans rfl⟩ (fun hHeld => ?_)
                clear hK K
                refine norm_ (a' := ?_) ?_ ?_
                rotate_left
                ·
                 show Act.put _ (some 98) _ = _
                 simp only [Act.put, List.setIfInBounds_toArray, List.set_cons_zero, List.set_cons_succ, i64_w, i32_w]
                 rfl
                refine one_ (i := 4) (N := some 99) #[true, true, true, true, true, false, false, false, true, false, false] rfl rfl (one_of HT_.out (by kernel_rfl)) (by decide) (fun K hK => ?_)
                refine goes_ Try.func40 (by kernel_rfl) rfl #[.agg #[.slice Ao163 t380.length co163, .slice Ao164 t383.length co164], .agg #[.slice Ao165 t386.length co165, .slice Ao166 t389.length co166]] (by rfl) rfl rfl (by (try simp only [List.map_toArray, List.map_cons, List.map_nil]); first | done | rfl | (simp only [List.length_drop, List.length_take]; rfl)) ?_
                with_reducible refine (impl_Rotate.calls kj101 _ _ t380 _ _ t383 _ _ t386 _ _ t389 t392 t395 t398 _ ?side1 ?side2 ?side3 ?side4 ?side5 ?side6 ?side7 ?side8 A148.out).mono ?_
                (case side1 => exact cU (Kd.R_reads' HO382.out).2.2)
                (case side2 => exact (Kd.R_reads' HO382.out).2.1)
                (case side3 => exact cU (Kd.R_reads' HO385.out).2.2)
                (case side4 => exact (Kd.R_reads' HO385.out).2.1)
                (case side5 => exact cU (Kd.R_reads' HO388.out).2.2)
                (case side6 => exact (Kd.R_reads' HO388.out).2.1)
                (case side7 => exact cU (Kd.R_reads' HO391.out).2.2)
                (case side8 => exact (Kd.R_reads' HO391.out).2.1)
                rintro e w167 ⟨v393, v396, rfl, ho0, ho1, hb⟩
                refine ⟨_, rfl, ?_⟩
                have HO394 := Aside0.mk (Kd.R_lower (Kd.R_new' (Kd.R_new' (Kd.R_new' (Kd.R_new' (Kd.R_new' (Kd.R_new' (Kd.R_new' (Kd.R_new' (Kd.R_new' (Kd.R_new' (Kd.R_new' (Kd.R_new' ho0 (Kd.R_lt (RU HO_332000.out))) (Kd.R_lt (RU HO_332001.out))) (Kd.R_lt (RU HO_339000.out))) (Kd.R_lt (RU HO_339001.out))) (Kd.R_lt (RU HO_346000.out))) (Kd.R_lt (RU HO_346001.out))) (Kd.R_lt (RU HO_354000.out))) (Kd.R_lt (RU HO_354001.out))) (Kd.R_lt (RU HO382.out))) (Kd.R_lt (RU HO385.out))) (Kd.R_lt (RU HO388.out))) (Kd.R_lt (RU HO391.out))) (below_size (by repeat (first | (with_reducible first | exact HB.out | apply below_alloc | apply pw_below_drewN | apply below_drew1 | refine below_set ?_ GE308.out | refine below_set ?_ GE309.out | refine below_set ?_ GE331.out | refine below_set ?_ GE338.out | refine below_set ?_ GE345.out | refine below_set ?_ GE353.out | refine below_set ?_ GE399.out) | exact HB.out))))
                have HO397 := Aside0.mk (Kd.R_lower (Kd.R_new' (Kd.R_new' (Kd.R_new' (Kd.R_new' (Kd.R_new' (Kd.R_new' (Kd.R_new' (Kd.R_new' (Kd.R_new' (Kd.R_new' (Kd.R_new' (Kd.R_new' ho1 (Kd.R_lt (RU HO_332000.out))) (Kd.R_lt (RU HO_332001.out))) (Kd.R_lt (RU HO_339000.out))) (Kd.R_lt (RU HO_339001.out))) (Kd.R_lt (RU HO_346000.out))) (Kd.R_lt (RU HO_346001.out))) (Kd.R_lt (RU HO_354000.out))) (Kd.R_lt (RU HO_354001.out))) (Kd.R_lt (RU HO382.out))) (Kd.R_lt (RU HO385.out))) (Kd.R_lt (RU HO388.out))) (Kd.R_lt (RU HO391.out))) (below_size (by repeat (first | (with_reducible first | exact HB.out | apply below_alloc | apply pw_below_drewN | apply below_drew1 | refine below_set ?_ GE308.out | refine below_set ?_ GE309.out | refine below_set ?_ GE331.out | refine below_set ?_ GE338.out | refine below_set ?_ GE345.out | refine below_set ?_ GE353.out | refine below_set ?_ GE399.out) | exact HB.out))))
                replace HO_332000 := Aside0.mk (Kd.R_mono (Kd.R_told (Kd.R_told (Kd.R_old (RU HO_332000.out) hb) (Kd.R_base ho0)) (Kd.R_base ho1)) (fun _ h_ => h_.1))
                replace HO_332001 := Aside0.mk (Kd.R_mono (Kd.R_told (Kd.R_told (Kd.R_old (RU HO_332001.out) hb) (Kd.R_base ho0)) (Kd.R_base ho1)) (fun _ h_ => h_.1))
                replace HO_339000 := Aside0.mk (Kd.R_mono (Kd.R_told (Kd.R_told (Kd.R_old (RU HO_339000.out) hb) (Kd.R_base ho0)) (Kd.R_base ho1)) (fun _ h_ => h_.1))
                replace HO_339001 := Aside0.mk (Kd.R_mono (Kd.R_told (Kd.R_told (Kd.R_old (RU HO_339001.out) hb) (Kd.R_base ho0)) (Kd.R_base ho1)) (fun _ h_ => h_.1))
                replace HO_346000 := Aside0.mk (Kd.R_mono (Kd.R_told (Kd.R_told (Kd.R_old (RU HO_346000.out) hb) (Kd.R_base ho0)) (Kd.R_base ho1)) (fun _ h_ => h_.1))
                replace HO_346001 := Aside0.mk (Kd.R_mono (Kd.R_told (Kd.R_told (Kd.R_old (RU HO_346001.out) hb) (Kd.R_base ho0)) (Kd.R_base ho1)) (fun _ h_ => h_.1))
                replace HO_354000 := Aside0.mk (Kd.R_mono (Kd.R_told (Kd.R_told (Kd.R_old (RU HO_354000.out) hb) (Kd.R_base ho0)) (Kd.R_base ho1)) (fun _ h_ => h_.1))
                replace HO_354001 := Aside0.mk (Kd.R_mono (Kd.R_told (Kd.R_told (Kd.R_old (RU HO_354001.out) hb) (Kd.R_base ho0)) (Kd.R_base ho1)) (fun _ h_ => h_.1))
                replace HO382 := Aside0.mk (Kd.R_mono (Kd.R_told (Kd.R_told (Kd.R_old (RU HO382.out) hb) (Kd.R_base ho0)) (Kd.R_base ho1)) (fun _ h_ => h_.1))
                replace HO385 := Aside0.mk (Kd.R_mono (Kd.R_told (Kd.R_told (Kd.R_old (RU HO385.out) hb) (Kd.R_base ho0)) (Kd.R_base ho1)) (fun _ h_ => h_.1))
                replace HO388 := Aside0.mk (Kd.R_mono (Kd.R_told (Kd.R_told (Kd.R_old (RU HO388.out) hb) (Kd.R_base ho0)) (Kd.R_base ho1)) (fun _ h_ => h_.1))
                replace HO391 := Aside0.mk (Kd.R_mono (Kd.R_told (Kd.R_told (Kd.R_old (RU HO391.out) hb) (Kd.R_base ho0)) (Kd.R_base ho1)) (fun _ h_ => h_.1))
                replace BK308 := Aside0.mk (blk_below (g := gb308) (o := .cells #[.slice A0_0 l0_0.length c0_0, .slice A0_1 l0_1.length c0_1] 24 (0, 0)) (kU BK308.out) hb)
                replace BK309 := Aside0.mk (blk_below (g := gb309) (o := .cells #[.slice A1_0 l1_0.length c1_0, .slice A1_1 l1_1.length c1_1] 24 (0, 0)) (kU BK309.out) hb)
                replace BK331 := Aside0.mk (blk_below (g := gb331) (o := .cells #[.slice Ao43 t324.length co43, .slice Ao45 t327.length co45] 26 (0, 0)) (kU BK331.out) hb)
                replace BK338 := Aside0.mk (blk_below (g := gb338) (o := .cells #[.slice Ao51 t370.length co51, .slice Ao56 t371.length co56] 26 (0, 0)) (kU BK338.out) hb)
                replace BK345 := Aside0.mk (blk_below (g := gb345) (o := .cells #[.slice Ao61 t373.length co61, .slice Ao67 t374.length co67] 26 (0, 0)) (kU BK345.out) hb)
                replace BK353 := Aside0.mk (blk_below (g := gb353) (o := .cells #[.slice Ao71 t346.length co71, .slice Ao78 t349.length co78] 26 (0, 0)) (kU BK353.out) hb)
                replace BK399 := Aside0.mk (blk_below (g := gb399) (o := .cells #[.slice none 0 0, .slice none 0 0] 26 (0, 0)) (kU BK399.out) hb)
                replace HB := Aside0.mk (below_step (by repeat (first | (with_reducible first | exact HB.out | apply below_alloc | apply pw_below_drewN | apply below_drew1 | refine below_set ?_ GE308.out | refine below_set ?_ GE309.out | refine below_set ?_ GE331.out | refine below_set ?_ GE338.out | refine below_set ?_ GE345.out | refine below_set ?_ GE353.out | refine below_set ?_ GE399.out) | exact HB.out)) hb)
                (try clear hb)
                (try clear hb2)
                (try clear hk)
                (try clear hi)
                (try clear ho0)
                (try clear ho1)
                refine hK.out _ _ ⟨(blk_cell BK308.out 0).trans rfl, (blk_cell BK308.out 1).trans rfl, (blk_cell BK309.out 0).trans rfl, (blk_cell BK309.out 1).trans rfl⟩ (fun hHeld => ?_)
                clear hK K
                refine norm_ (a' := ?_) ?_ ?_
                rotate_left
                ·
                 show Act.put _ (some 99) _ = _
                 simp only [Act.put, List.setIfInBounds_toArray, List.set_cons_zero, List.set_cons_succ, i64_w, i32_w]
                 rfl
                refine pure_ (i := 5) (N := some 94) (v := ?_) (a' := ?_) #[true, true, true, true, true, true, false, false, true, false, false] rfl rfl (any_of HT_.out (by kernel_rfl)) (fun _ _ _ h => h) (Or.inl ⟨by rfl, ?_⟩) ?_ ?_
                rotate_left
                ·
                 intro w'
                 go_simp
                 with_reducible rfl
                rotate_left
                ·
                 simp only [Act.put, List.setIfInBounds_toArray, List.set_cons_zero, List.set_cons_succ, i64_w, i32_w]
                 rfl
                refine pure_ (i := 6) (N := some 100) (v := ?_) (a' := ?_) #[true, true, true, true, true, true, true, false, true, false, false] rfl rfl (any_of HT_.out (by kernel_rfl)) (fun _ _ _ h => h) (Or.inl ⟨by rfl, ?_⟩) ?_ ?_
                rotate_left
                ·
                 intro w'
                 go_simp
                 with_reducible rfl
                rotate_left
                ·
                 simp only [Act.put, List.setIfInBounds_toArray, List.set_cons_zero, List.set_cons_succ, i64_w, i32_w]
                 rfl
                refine pure_ (i := 7) (N := some 101) (v := ?_) (a' := ?_) #[true, true, true, true, true, true, true, true, true, false, false] rfl rfl (any_of HT_.out (by kernel_rfl)) (fun _ _ _ h => h) (Or.inl ⟨by rfl, ?_⟩) ?_ ?_
                rotate_left
                ·
                 intro w'
                 go_simp
                 with_reducible rfl
                rotate_left
                ·
                 simp only [Act.put, List.setIfInBounds_toArray, List.set_cons_zero, List.set_cons_succ, i64_w, i32_w]
                 rfl
                exact norm_ (by simp only [putAll, Act.put, List.setIfInBounds_toArray, List.set_cons_zero, List.set_cons_succ]) (hCont (.slice Ao163 t380.length co163, .slice Ao164 t383.length co164, .slice Ao165 t386.length co165, .slice Ao166 t389.length co166, v393, v396, gb399) _ ⟨hHeld, (by (with_reducible repeat (first | apply Kd.R_alloc | apply Kd.R_drewN | apply Kd.R_drew)); exact Kd.R_mono HO382.out (fun _ hk => ⟨hk.1.1.1.1.1.1.1.1.1.1.1.1, ⟨hk.1.1.1.2, ⟨hk.1.1.2, ⟨hk.1.2, ⟨hk.2, ⟨hk.1.1.1.1.1.1.1.1.1.1.1.2, ⟨hk.1.1.1.1.1.1.1.1.1.1.2, ⟨hk.1.1.1.1.1.1.1.1.1.2, ⟨hk.1.1.1.1.1.1.1.1.2, ⟨hk.1.1.1.1.1.1.1.2, ⟨hk.1.1.1.1.1.1.2, ⟨hk.1.1.1.1.1.2, hk.1.1.1.1.2⟩⟩⟩⟩⟩⟩⟩⟩⟩⟩⟩⟩)), (by (with_reducible repeat (first | apply Kd.R_alloc | apply Kd.R_drewN | apply Kd.R_drew)); exact Kd.R_mono HO385.out (fun _ hk => ⟨hk.1.1.1.1.1.1.1.1.1.1.1.1, ⟨hk.1.1.1.2, ⟨hk.1.1.2, ⟨hk.1.2, ⟨hk.2, ⟨hk.1.1.1.1.1.1.1.1.1.1.1.2, ⟨hk.1.1.1.1.1.1.1.1.1.1.2, ⟨hk.1.1.1.1.1.1.1.1.1.2, ⟨hk.1.1.1.1.1.1.1.1.2, ⟨hk.1.1.1.1.1.1.1.2, ⟨hk.1.1.1.1.1.1.2, ⟨hk.1.1.1.1.1.2, hk.1.1.1.1.2⟩⟩⟩⟩⟩⟩⟩⟩⟩⟩⟩⟩)), (by (with_reducible repeat (first | apply Kd.R_alloc | apply Kd.R_drewN | apply Kd.R_drew)); exact Kd.R_mono HO388.out (fun _ hk => ⟨hk.1.1.1.2, ⟨hk.1.1.2, ⟨hk.1.1.1.1.1.1.1.1.1.1.1.1, ⟨hk.1.2, ⟨hk.2, ⟨hk.1.1.1.1.1.1.1.1.1.1.1.2, ⟨hk.1.1.1.1.1.1.1.1.1.1.2, ⟨hk.1.1.1.1.1.1.1.1.1.2, ⟨hk.1.1.1.1.1.1.1.1.2, ⟨hk.1.1.1.1.1.1.1.2, ⟨hk.1.1.1.1.1.1.2, ⟨hk.1.1.1.1.1.2, hk.1.1.1.1.2⟩⟩⟩⟩⟩⟩⟩⟩⟩⟩⟩⟩)), (by (with_reducible repeat (first | apply Kd.R_alloc | apply Kd.R_drewN | apply Kd.R_drew)); exact Kd.R_mono HO391.out (fun _ hk => ⟨hk.1.1.1.2, ⟨hk.1.1.2, ⟨hk.1.1.1.1.1.1.1.1.1.1.1.1, ⟨hk.1.2, ⟨hk.2, ⟨hk.1.1.1.1.1.1.1.1.1.1.1.2, ⟨hk.1.1.1.1.1.1.1.1.1.1.2, ⟨hk.1.1.1.1.1.1.1.1.1.2, ⟨hk.1.1.1.1.1.1.1.1.2, ⟨hk.1.1.1.1.1.1.1.2, ⟨hk.1.1.1.1.1.1.2, ⟨hk.1.1.1.1.1.2, hk.1.1.1.1.2⟩⟩⟩⟩⟩⟩⟩⟩⟩⟩⟩⟩)), (by (with_reducible repeat (first | apply Kd.R_alloc | apply Kd.R_drewN | apply Kd.R_drew)); exact Kd.R_mono HO394.out (fun _ hk => ⟨hk.1.1.1.2, ⟨hk.1.1.2, ⟨hk.1.2, ⟨hk.2, ⟨hk.1.1.1.1.1.1.1.1.1.1.1.1, ⟨hk.1.1.1.1.1.1.1.1.1.1.1.2, ⟨hk.1.1.1.1.1.1.1.1.1.1.2, ⟨hk.1.1.1.1.1.1.1.1.1.2, ⟨hk.1.1.1.1.1.1.1.1.2, ⟨hk.1.1.1.1.1.1.1.2, ⟨hk.1.1.1.1.1.1.2, ⟨hk.1.1.1.1.1.2, hk.1.1.1.1.2⟩⟩⟩⟩⟩⟩⟩⟩⟩⟩⟩⟩)), (by (with_reducible repeat (first | apply Kd.R_alloc | apply Kd.R_drewN | apply Kd.R_drew)); exact Kd.R_mono HO397.out (fun _ hk => ⟨hk.1.1.1.2, ⟨hk.1.1.2, ⟨hk.1.2, ⟨hk.2, ⟨hk.1.1.1.1.1.1.1.1.1.1.1.1, ⟨hk.1.1.1.1.1.1.1.1.1.1.1.2, ⟨hk.1.1.1.1.1.1.1.1.1.1.2, ⟨hk.1.1.1.1.1.1.1.1.1.2, ⟨hk.1.1.1.1.1.1.1.1.2, ⟨hk.1.1.1.1.1.1.1.2, ⟨hk.1.1.1.1.1.1.2, ⟨hk.1.1.1.1.1.2, hk.1.1.1.1.2⟩⟩⟩⟩⟩⟩⟩⟩⟩⟩⟩⟩)), (by (with_reducible repeat (first | apply Kd.R_alloc | apply Kd.R_drewN | apply Kd.R_drew)); exact Kd.R_mono HO_332000.out (fun _ hk => ⟨hk.1.1.1.1.1.2, ⟨hk.1.1.1.1.2, ⟨hk.1.1.1.2, ⟨hk.1.1.2, ⟨hk.1.2, ⟨hk.2, ⟨hk.1.1.1.1.1.1.1, ⟨hk.1.1.1.1.1.1.2.1, ⟨hk.1.1.1.1.1.1.2.2.1, ⟨hk.1.1.1.1.1.1.2.2.2.1, ⟨hk.1.1.1.1.1.1.2.2.2.2.1, ⟨hk.1.1.1.1.1.1.2.2.2.2.2.1, hk.1.1.1.1.1.1.2.2.2.2.2.2⟩⟩⟩⟩⟩⟩⟩⟩⟩⟩⟩⟩)), (by (with_reducible repeat (first | apply Kd.R_alloc | apply Kd.R_drewN | apply Kd.R_drew)); exact Kd.R_mono HO_332001.out (fun _ hk => ⟨hk.1.1.1.1.1.2, ⟨hk.1.1.1.1.2, ⟨hk.1.1.1.2, ⟨hk.1.1.2, ⟨hk.1.2, ⟨hk.2, ⟨hk.1.1.1.1.1.1.1, ⟨hk.1.1.1.1.1.1.2.1, ⟨hk.1.1.1.1.1.1.2.2.1, ⟨hk.1.1.1.1.1.1.2.2.2.1, ⟨hk.1.1.1.1.1.1.2.2.2.2.1, ⟨hk.1.1.1.1.1.1.2.2.2.2.2.1, hk.1.1.1.1.1.1.2.2.2.2.2.2⟩⟩⟩⟩⟩⟩⟩⟩⟩⟩⟩⟩)), (by (with_reducible repeat (first | apply Kd.R_alloc | apply Kd.R_drewN | apply Kd.R_drew)); exact Kd.R_mono HO_339000.out (fun _ hk => ⟨hk.1.1.1.1.1.2, ⟨hk.1.1.1.1.2, ⟨hk.1.1.1.2, ⟨hk.1.1.2, ⟨hk.1.2, ⟨hk.2, ⟨hk.1.1.1.1.1.1.1, ⟨hk.1.1.1.1.1.1.2.1, ⟨hk.1.1.1.1.1.1.2.2.1, ⟨hk.1.1.1.1.1.1.2.2.2.1, ⟨hk.1.1.1.1.1.1.2.2.2.2.1, ⟨hk.1.1.1.1.1.1.2.2.2.2.2.1, hk.1.1.1.1.1.1.2.2.2.2.2.2⟩⟩⟩⟩⟩⟩⟩⟩⟩⟩⟩⟩)), (by (with_reducible repeat (first | apply Kd.R_alloc | apply Kd.R_drewN | apply Kd.R_drew)); exact Kd.R_mono HO_339001.out (fun _ hk => ⟨hk.1.1.1.1.1.2, ⟨hk.1.1.1.1.2, ⟨hk.1.1.1.2, ⟨hk.1.1.2, ⟨hk.1.2, ⟨hk.2, ⟨hk.1.1.1.1.1.1.1, ⟨hk.1.1.1.1.1.1.2.1, ⟨hk.1.1.1.1.1.1.2.2.1, ⟨hk.1.1.1.1.1.1.2.2.2.1, ⟨hk.1.1.1.1.1.1.2.2.2.2.1, ⟨hk.1.1.1.1.1.1.2.2.2.2.2.1, hk.1.1.1.1.1.1.2.2.2.2.2.2⟩⟩⟩⟩⟩⟩⟩⟩⟩⟩⟩⟩)), (by (with_reducible repeat (first | apply Kd.R_alloc | apply Kd.R_drewN | apply Kd.R_drew)); exact Kd.R_mono HO_346000.out (fun _ hk => ⟨hk.1.1.1.1.1.2, ⟨hk.1.1.1.1.2, ⟨hk.1.1.1.2, ⟨hk.1.1.2, ⟨hk.1.2, ⟨hk.2, ⟨hk.1.1.1.1.1.1.1, ⟨hk.1.1.1.1.1.1.2.1, ⟨hk.1.1.1.1.1.1.2.2.1, ⟨hk.1.1.1.1.1.1.2.2.2.1, ⟨hk.1.1.1.1.1.1.2.2.2.2.1, ⟨hk.1.1.1.1.1.1.2.2.2.2.2.1, hk.1.1.1.1.1.1.2.2.2.2.2.2⟩⟩⟩⟩⟩⟩⟩⟩⟩⟩⟩⟩)), (by (with_reducible repeat (first | apply Kd.R_alloc | apply Kd.R_drewN | apply Kd.R_drew)); exact Kd.R_mono HO_346001.out (fun _ hk => ⟨hk.1.1.1.1.1.2, ⟨hk.1.1.1.1.2, ⟨hk.1.1.1.2, ⟨hk.1.1.2, ⟨hk.1.2, ⟨hk.2, ⟨hk.1.1.1.1.1.1.1, ⟨hk.1.1.1.1.1.1.2.1, ⟨hk.1.1.1.1.1.1.2.2.1, ⟨hk.1.1.1.1.1.1.2.2.2.1, ⟨hk.1.1.1.1.1.1.2.2.2.2.1, ⟨hk.1.1.1.1.1.1.2.2.2.2.2.1, hk.1.1.1.1.1.1.2.2.2.2.2.2⟩⟩⟩⟩⟩⟩⟩⟩⟩⟩⟩⟩)), (by (with_reducible repeat (first | apply Kd.R_alloc | apply Kd.R_drewN | apply Kd.R_drew)); exact Kd.R_mono HO_354000.out (fun _ hk => ⟨hk.1.1.1.1.1.2, ⟨hk.1.1.1.1.2, ⟨hk.1.1.1.2, ⟨hk.1.1.2, ⟨hk.1.2, ⟨hk.2, ⟨hk.1.1.1.1.1.1.1, ⟨hk.1.1.1.1.1.1.2.1, ⟨hk.1.1.1.1.1.1.2.2.1, ⟨hk.1.1.1.1.1.1.2.2.2.1, ⟨hk.1.1.1.1.1.1.2.2.2.2.1, ⟨hk.1.1.1.1.1.1.2.2.2.2.2.1, hk.1.1.1.1.1.1.2.2.2.2.2.2⟩⟩⟩⟩⟩⟩⟩⟩⟩⟩⟩⟩)), (by (with_reducible repeat (first | apply Kd.R_alloc | apply Kd.R_drewN | apply Kd.R_drew)); exact Kd.R_mono HO_354001.out (fun _ hk => ⟨hk.1.1.1.1.1.2, ⟨hk.1.1.1.1.2, ⟨hk.1.1.1.2, ⟨hk.1.1.2, ⟨hk.1.2, ⟨hk.2, ⟨hk.1.1.1.1.1.1.1, ⟨hk.1.1.1.1.1.1.2.1, ⟨hk.1.1.1.1.1.1.2.2.1, ⟨hk.1.1.1.1.1.1.2.2.2.1, ⟨hk.1.1.1.1.1.1.2.2.2.2.1, ⟨hk.1.1.1.1.1.1.2.2.2.2.2.1, hk.1.1.1.1.1.1.2.2.2.2.2.2⟩⟩⟩⟩⟩⟩⟩⟩⟩⟩⟩⟩)), (kU BK308.out), (kU BK309.out), (kU BK331.out), (kU BK338.out), (kU BK345.out), (kU BK353.out), (kU BK399.out), GW399.out, GE399.out, NB308_399.out, NB399_308.out, NB309_399.out, NB399_309.out, NB331_399.out, NB399_331.out, NB338_399.out, NB399_338.out, NB345_399.out, NB399_345.out, NB353_399.out, NB399_353.out, (by repeat (first | (with_reducible first | exact HB.out | apply below_alloc | apply pw_below_drewN | apply below_drew1 | refine below_set ?_ GE308.out | refine below_set ?_ GE309.out | refine below_set ?_ GE331.out | refine below_set ?_ GE338.out | refine below_set ?_ GE345.out | refine below_set ?_ GE353.out | refine below_set ?_ GE399.out) | exact HB.out))⟩)
              ·
               skip
               refine box_step ?hg (N := 15) ?hd (cs := #[.slice none 0 0, .slice none 0 0]) (t := 26) ?hr ?_; (case hd => rfl); (case hg => rfl); (case hr => first | (go_simp; done) | (go_simp; rfl))
               intro gb399 hg w160 hbox hb
               replace HO_332000 := Aside0.mk (Kd.R_below (RU HO_332000.out) hb)
               replace HO_332001 := Aside0.mk (Kd.R_below (RU HO_332001.out) hb)
               replace HO_339000 := Aside0.mk (Kd.R_below (RU HO_339000.out) hb)
               replace HO_339001 := Aside0.mk (Kd.R_below (RU HO_339001.out) hb)
               replace HO_346000 := Aside0.mk (Kd.R_below (RU HO_346000.out) hb)
               replace HO_346001 := Aside0.mk (Kd.R_below (RU HO_346001.out) hb)
               replace HO_354000 := Aside0.mk (Kd.R_below (RU HO_354000.out) hb)
               replace HO_354001 := Aside0.mk (Kd.R_below (RU HO_354001.out) hb)
               have BK399 := Aside0.mk (hbox)
               have GW399 := Aside0.mk ((by rw [hg]; exact (below_size (by repeat (first | (with_reducible first | exact HB.out | apply below_alloc | apply pw_below_drewN | apply below_drew1 | refine below_set ?_ GE308.out | refine below_set ?_ GE309.out | refine below_set ?_ GE331.out | refine below_set ?_ GE338.out | refine below_set ?_ GE345.out | refine below_set ?_ GE353.out) | exact HB.out))) : w.heap.size ≤ gb399))
               have GE399 := Aside0.mk ((by rw [hg]; exact (below_size (by repeat (first | (with_reducible first | exact HB.out | apply below_alloc | apply pw_below_drewN | apply below_drew1 | refine below_set ?_ GE308.out | refine below_set ?_ GE309.out | refine below_set ?_ GE331.out | refine below_set ?_ GE338.out | refine below_set ?_ GE345.out | refine below_set ?_ GE353.out) | exact HB.out))) : w.heap.size ≤ gb399))
               replace HB := Aside0.mk (below_step (by repeat (first | (with_reducible first | exact HB.out | apply below_alloc | apply pw_below_drewN | apply below_drew1 | refine below_set ?_ GE308.out | refine below_set ?_ GE309.out | refine below_set ?_ GE331.out | refine below_set ?_ GE338.out | refine below_set ?_ GE345.out | refine below_set ?_ GE353.out) | exact HB.out)) hb)
               have NB308_399 := Aside0.mk ((by rw [hg]; exact Nat.ne_of_lt (blk_lt (g := gb308) (o := .cells #[.slice A0_0 l0_0.length c0_0, .slice A0_1 l0_1.length c0_1] 24 (0, 0)) (kU BK308.out)) : gb308 ≠ gb399))
               have NB399_308 := Aside0.mk ((by rw [hg]; exact Nat.ne_of_gt (blk_lt (g := gb308) (o := .cells #[.slice A0_0 l0_0.length c0_0, .slice A0_1 l0_1.length c0_1] 24 (0, 0)) (kU BK308.out)) : gb399 ≠ gb308))
               replace BK308 := Aside0.mk (blk_below (g := gb308) (o := .cells #[.slice A0_0 l0_0.length c0_0, .slice A0_1 l0_1.length c0_1] 24 (0, 0)) (kU BK308.out) hb)
               have NB309_399 := Aside0.mk ((by rw [hg]; exact Nat.ne_of_lt (blk_lt (g := gb309) (o := .cells #[.slice A1_0 l1_0.length c1_0, .slice A1_1 l1_1.length c1_1] 24 (0, 0)) (kU BK309.out)) : gb309 ≠ gb399))
               have NB399_309 := Aside0.mk ((by rw [hg]; exact Nat.ne_of_gt (blk_lt (g := gb309) (o := .cells #[.slice A1_0 l1_0.length c1_0, .slice A1_1 l1_1.length c1_1] 24 (0, 0)) (kU BK309.out)) : gb399 ≠ gb309))
               replace BK309 := Aside0.mk (blk_below (g := gb309) (o := .cells #[.slice A1_0 l1_0.length c1_0, .slice A1_1 l1_1.length c1_1] 24 (0, 0)) (kU BK309.out) hb)
               have NB331_399 := Aside0.mk ((by rw [hg]; exact Nat.ne_of_lt (blk_lt (g := gb331) (o := .cells #[.slice Ao43 t324.length co43, .slice Ao45 t327.length co45] 26 (0, 0)) (kU BK331.out)) : gb331 ≠ gb399))
               have NB399_331 := Aside0.mk ((by rw [hg]; exact Nat.ne_of_gt (blk_lt (g := gb331) (o := .cells #[.slice Ao43 t324.length co43, .slice Ao45 t327.length co45] 26 (0, 0)) (kU BK331.out)) : gb399 ≠ gb331))
               replace BK331 := Aside0.mk (blk_below (g := gb331) (o := .cells #[.slice Ao43 t324.length co43, .slice Ao45 t327.length co45] 26 (0, 0)) (kU BK331.out) hb)
               have NB338_399 := Aside0.mk ((by rw [hg]; exact Nat.ne_of_lt (blk_lt (g := gb338) (o := .cells #[.slice Ao51 t370.length co51, .slice Ao56 t371.length co56] 26 (0, 0)) (kU BK338.out)) : gb338 ≠ gb399))
               have NB399_338 := Aside0.mk ((by rw [hg]; exact Nat.ne_of_gt (blk_lt (g := gb338) (o := .cells #[.slice Ao51 t370.length co51, .slice Ao56 t371.length co56] 26 (0, 0)) (kU BK338.out)) : gb399 ≠ gb338))
               replace BK338 := Aside0.mk (blk_below (g := gb338) (o := .cells #[.slice Ao51 t370.length co51, .slice Ao56 t371.length co56] 26 (0, 0)) (kU BK338.out) hb)
               have NB345_399 := Aside0.mk ((by rw [hg]; exact Nat.ne_of_lt (blk_lt (g := gb345) (o := .cells #[.slice Ao61 t373.length co61, .slice Ao67 t374.length co67] 26 (0, 0)) (kU BK345.out)) : gb345 ≠ gb399))
               have NB399_345 := Aside0.mk ((by rw [hg]; exact Nat.ne_of_gt (blk_lt (g := gb345) (o := .cells #[.slice Ao61 t373.length co61, .slice Ao67 t374.length co67] 26 (0, 0)) (kU BK345.out)) : gb399 ≠ gb345))
               replace BK345 := Aside0.mk (blk_below (g := gb345) (o := .cells #[.slice Ao61 t373.length co61, .slice Ao67 t374.length co67] 26 (0, 0)) (kU BK345.out) hb)
               have NB353_399 := Aside0.mk ((by rw [hg]; exact Nat.ne_of_lt (blk_lt (g := gb353) (o := .cells #[.slice Ao71 t346.length co71, .slice Ao78 t349.length co78] 26 (0, 0)) (kU BK353.out)) : gb353 ≠ gb399))
               have NB399_353 := Aside0.mk ((by rw [hg]; exact Nat.ne_of_gt (blk_lt (g := gb353) (o := .cells #[.slice Ao71 t346.length co71, .slice Ao78 t349.length co78] 26 (0, 0)) (kU BK353.out)) : gb399 ≠ gb353))
               replace BK353 := Aside0.mk (blk_below (g := gb353) (o := .cells #[.slice Ao71 t346.length co71, .slice Ao78 t349.length co78] 26 (0, 0)) (kU BK353.out) hb)
               clear hb hbox hg
               refine hK.out _ _ ⟨(blk_cell BK308.out 0).trans rfl, (blk_cell BK308.out 1).trans rfl, (blk_cell BK309.out 0).trans rfl, (blk_cell BK309.out 1).trans rfl⟩ (fun hHeld => ?_)
               clear hK K
               refine norm_ (a' := ?_) ?_ ?_
               rotate_left
               ·
                show Act.put _ (some 15) _ = _
                simp only [Act.put, List.setIfInBounds_toArray, List.set_cons_zero, List.set_cons_succ, i64_w, i32_w]
                rfl
               refine one_ (i := 1) (N := some 96) #[true, true, true, false, false, false, false, false, true, false, false] rfl rfl (one_of HT_.out (by kernel_rfl)) (by decide) (fun K hK => ?_)
               refine goes_ Try.func17 (by kernel_rfl) rfl #[.agg #[.slice A0_0 l0_0.length c0_0, .slice A0_1 l0_1.length c0_1]] (by rfl) rfl rfl (by (try simp only [List.map_toArray, List.map_cons, List.map_nil]); first | done | rfl | (simp only [List.length_drop, List.length_take]; rfl)) ?_
               with_reducible refine (laws_toArray.calls kj101 _ _ l0_0 _ _ l0_1 t380 t383 _ ?side1 ?side2 ?side3 ?side4 A146.out).mono ?_
               (case side1 => exact cU (Kd.C_below HR0_0.out HB.out))
               (case side2 => exact HC0_0.out)
               (case side3 => exact cU (Kd.C_below HR0_1.out HB.out))
               (case side4 => exact HC0_1.out)
               rintro e w161 ⟨v381, v384, rfl, ho0, ho1, hb⟩
               refine ⟨_, rfl, ?_⟩
               have HO382 := Aside0.mk (Kd.R_lower (Kd.R_new' (Kd.R_new' (Kd.R_new' (Kd.R_new' (Kd.R_new' (Kd.R_new' (Kd.R_new' (Kd.R_new' ho0 (Kd.R_lt (RU HO_332000.out))) (Kd.R_lt (RU HO_332001.out))) (Kd.R_lt (RU HO_339000.out))) (Kd.R_lt (RU HO_339001.out))) (Kd.R_lt (RU HO_346000.out))) (Kd.R_lt (RU HO_346001.out))) (Kd.R_lt (RU HO_354000.out))) (Kd.R_lt (RU HO_354001.out))) (below_size (by repeat (first | (with_reducible first | exact HB.out | apply below_alloc | apply pw_below_drewN | apply below_drew1 | refine below_set ?_ GE308.out | refine below_set ?_ GE309.out | refine below_set ?_ GE331.out | refine below_set ?_ GE338.out | refine below_set ?_ GE345.out | refine below_set ?_ GE353.out | refine below_set ?_ GE399.out) | exact HB.out))))
               have HO385 := Aside0.mk (Kd.R_lower (Kd.R_new' (Kd.R_new' (Kd.R_new' (Kd.R_new' (Kd.R_new' (Kd.R_new' (Kd.R_new' (Kd.R_new' ho1 (Kd.R_lt (RU HO_332000.out))) (Kd.R_lt (RU HO_332001.out))) (Kd.R_lt (RU HO_339000.out))) (Kd.R_lt (RU HO_339001.out))) (Kd.R_lt (RU HO_346000.out))) (Kd.R_lt (RU HO_346001.out))) (Kd.R_lt (RU HO_354000.out))) (Kd.R_lt (RU HO_354001.out))) (below_size (by repeat (first | (with_reducible first | exact HB.out | apply below_alloc | apply pw_below_drewN | apply below_drew1 | refine below_set ?_ GE308.out | refine below_set ?_ GE309.out | refine below_set ?_ GE331.out | refine below_set ?_ GE338.out | refine below_set ?_ GE345.out | refine below_set ?_ GE353.out | refine below_set ?_ GE399.out) | exact HB.out))))
               replace HO_332000 := Aside0.mk (Kd.R_mono (Kd.R_told (Kd.R_told (Kd.R_old (RU HO_332000.out) hb) (Kd.R_base ho0)) (Kd.R_base ho1)) (fun _ h_ => h_.1))
               replace HO_332001 := Aside0.mk (Kd.R_mono (Kd.R_told (Kd.R_told (Kd.R_old (RU HO_332001.out) hb) (Kd.R_base ho0)) (Kd.R_base ho1)) (fun _ h_ => h_.1))
               replace HO_339000 := Aside0.mk (Kd.R_mono (Kd.R_told (Kd.R_told (Kd.R_old (RU HO_339000.out) hb) (Kd.R_base ho0)) (Kd.R_base ho1)) (fun _ h_ => h_.1))
               replace HO_339001 := Aside0.mk (Kd.R_mono (Kd.R_told (Kd.R_told (Kd.R_old (RU HO_339001.out) hb) (Kd.R_base ho0)) (Kd.R_base ho1)) (fun _ h_ => h_.1))
               replace HO_346000 := Aside0.mk (Kd.R_mono (Kd.R_told (Kd.R_told (Kd.R_old (RU HO_346000.out) hb) (Kd.R_base ho0)) (Kd.R_base ho1)) (fun _ h_ => h_.1))
               replace HO_346001 := Aside0.mk (Kd.R_mono (Kd.R_told (Kd.R_told (Kd.R_old (RU HO_346001.out) hb) (Kd.R_base ho0)) (Kd.R_base ho1)) (fun _ h_ => h_.1))
               replace HO_354000 := Aside0.mk (Kd.R_mono (Kd.R_told (Kd.R_told (Kd.R_old (RU HO_354000.out) hb) (Kd.R_base ho0)) (Kd.R_base ho1)) (fun _ h_ => h_.1))
               replace HO_354001 := Aside0.mk (Kd.R_mono (Kd.R_told (Kd.R_told (Kd.R_old (RU HO_354001.out) hb) (Kd.R_base ho0)) (Kd.R_base ho1)) (fun _ h_ => h_.1))
               replace BK308 := Aside0.mk (blk_below (g := gb308) (o := .cells #[.slice A0_0 l0_0.length c0_0, .slice A0_1 l0_1.length c0_1] 24 (0, 0)) (kU BK308.out) hb)
               replace BK309 := Aside0.mk (blk_below (g := gb309) (o := .cells #[.slice A1_0 l1_0.length c1_0, .slice A1_1 l1_1.length c1_1] 24 (0, 0)) (kU BK309.out) hb)
               replace BK331 := Aside0.mk (blk_below (g := gb331) (o := .cells #[.slice Ao43 t324.length co43, .slice Ao45 t327.length co45] 26 (0, 0)) (kU BK331.out) hb)
               replace BK338 := Aside0.mk (blk_below (g := gb338) (o := .cells #[.slice Ao51 t370.length co51, .slice Ao56 t371.length co56] 26 (0, 0)) (kU BK338.out) hb)
               replace BK345 := Aside0.mk (blk_below (g := gb345) (o := .cells #[.slice Ao61 t373.length co61, .slice Ao67 t374.length co67] 26 (0, 0)) (kU BK345.out) hb)
               replace BK353 := Aside0.mk (blk_below (g := gb353) (o := .cells #[.slice Ao71 t346.length co71, .slice Ao78 t349.length co78] 26 (0, 0)) (kU BK353.out) hb)
               replace BK399 := Aside0.mk (blk_below (g := gb399) (o := .cells #[.slice none 0 0, .slice none 0 0] 26 (0, 0)) (kU BK399.out) hb)
               replace HB := Aside0.mk (below_step (by repeat (first | (with_reducible first | exact HB.out | apply below_alloc | apply pw_below_drewN | apply below_drew1 | refine below_set ?_ GE308.out | refine below_set ?_ GE309.out | refine below_set ?_ GE331.out | refine below_set ?_ GE338.out | refine below_set ?_ GE345.out | refine below_set ?_ GE353.out | refine below_set ?_ GE399.out) | exact HB.out)) hb)
               (try clear hb)
               (try clear hb2)
               (try clear hk)
               (try clear hi)
               (try clear ho0)
               (try clear ho1)
               refine hK.out _ _ ⟨(blk_cell BK308.out 0).trans rfl, (blk_cell BK308.out 1).trans rfl, (blk_cell BK309.out 0).trans rfl, (blk_cell BK309.out 1).trans rfl⟩ (fun hHeld => ?_)
               clear hK K
               refine norm_ (a' := ?_) ?_ ?_
               rotate_left
               ·
                show Act.put _ (some 96) _ = _
                simp only [Act.put, List.setIfInBounds_toArray, List.set_cons_zero, List.set_cons_succ, i64_w, i32_w]
                rfl
               refine one_ (i := 3) (N := some 98) #[true, true, true, true, false, false, false, false, true, false, false] rfl rfl (one_of HT_.out (by kernel_rfl)) (by decide) (fun K hK => ?_)
               refine goes_ Try.func17 (by kernel_rfl) rfl #[.agg #[.slice A1_0 l1_0.length c1_0, .slice A1_1 l1_1.length c1_1]] (by rfl) rfl rfl (by (try simp only [List.map_toArray, List.map_cons, List.map_nil]); first | done | rfl | (simp only [List.length_drop, List.length_take]; rfl)) ?_
               with_reducible refine (laws_toArray.calls kj101 _ _ l1_0 _ _ l1_1 t386 t389 _ ?side1 ?side2 ?side3 ?side4 A147.out).mono ?_
               (case side1 => exact cU (Kd.C_below HR1_0.out HB.out))
               (case side2 => exact HC1_0.out)
               (case side3 => exact cU (Kd.C_below HR1_1.out HB.out))
               (case side4 => exact HC1_1.out)
               rintro e w162 ⟨v387, v390, rfl, ho0, ho1, hb⟩
               refine ⟨_, rfl, ?_⟩
               have HO388 := Aside0.mk (Kd.R_lower (Kd.R_new' (Kd.R_new' (Kd.R_new' (Kd.R_new' (Kd.R_new' (Kd.R_new' (Kd.R_new' (Kd.R_new' (Kd.R_new' (Kd.R_new' ho0 (Kd.R_lt (RU HO_332000.out))) (Kd.R_lt (RU HO_332001.out))) (Kd.R_lt (RU HO_339000.out))) (Kd.R_lt (RU HO_339001.out))) (Kd.R_lt (RU HO_346000.out))) (Kd.R_lt (RU HO_346001.out))) (Kd.R_lt (RU HO_354000.out))) (Kd.R_lt (RU HO_354001.out))) (Kd.R_lt (RU HO382.out))) (Kd.R_lt (RU HO385.out))) (below_size (by repeat (first | (with_reducible first | exact HB.out | apply below_alloc | apply pw_below_drewN | apply below_drew1 | refine below_set ?_ GE308.out | refine below_set ?_ GE309.out | refine below_set ?_ GE331.out | refine below_set ?_ GE338.out | refine below_set ?_ GE345.out | refine below_set ?_ GE353.out | refine below_set ?_ GE399.out) | exact HB.out))))
               have HO391 := Aside0.mk (Kd.R_lower (Kd.R_new' (Kd.R_new' (Kd.R_new' (Kd.R_new' (Kd.R_new' (Kd.R_new' (Kd.R_new' (Kd.R_new' (Kd.R_new' (Kd.R_new' ho1 (Kd.R_lt (RU HO_332000.out))) (Kd.R_lt (RU HO_332001.out))) (Kd.R_lt (RU HO_339000.out))) (Kd.R_lt (RU HO_339001.out))) (Kd.R_lt (RU HO_346000.out))) (Kd.R_lt (RU HO_346001.out))) (Kd.R_lt (RU HO_354000.out))) (Kd.R_lt (RU HO_354001.out))) (Kd.R_lt (RU HO382.out))) (Kd.R_lt (RU HO385.out))) (below_size (by repeat (first | (with_reducible first | exact HB.out | apply below_alloc | apply pw_below_drewN | apply below_drew1 | refine below_set ?_ GE308.out | refine below_set ?_ GE309.out | refine below_set ?_ GE331.out | refine below_set ?_ GE338.out | refine below_set ?_ GE345.out | refine below_set ?_ GE353.out | refine below_set ?_ GE399.out) | exact HB.out))))
               replace HO_332000 := Aside0.mk (Kd.R_mono (Kd.R_told (Kd.R_told (Kd.R_old (RU HO_332000.out) hb) (Kd.R_base ho0)) (Kd.R_base ho1)) (fun _ h_ => h_.1))
               replace HO_332001 := Aside0.mk (Kd.R_mono (Kd.R_told (Kd.R_told (Kd.R_old (RU HO_332001.out) hb) (Kd.R_base ho0)) (Kd.R_base ho1)) (fun _ h_ => h_.1))
               replace HO_339000 := Aside0.mk (Kd.R_mono (Kd.R_told (Kd.R_told (Kd.R_old (RU HO_339000.out) hb) (Kd.R_base ho0)) (Kd.R_base ho1)) (fun _ h_ => h_.1))
               replace HO_339001 := Aside0.mk (Kd.R_mono (Kd.R_told (Kd.R_told (Kd.R_old (RU HO_339001.out) hb) (Kd.R_base ho0)) (Kd.R_base ho1)) (fun _ h_ => h_.1))
               replace HO_346000 := Aside0.mk (Kd.R_mono (Kd.R_told (Kd.R_told (Kd.R_old (RU HO_346000.out) hb) (Kd.R_base ho0)) (Kd.R_base ho1)) (fun _ h_ => h_.1))
               replace HO_346001 := Aside0.mk (Kd.R_mono (Kd.R_told (Kd.R_told (Kd.R_old (RU HO_346001.out) hb) (Kd.R_base ho0)) (Kd.R_base ho1)) (fun _ h_ => h_.1))
               replace HO_354000 := Aside0.mk (Kd.R_mono (Kd.R_told (Kd.R_told (Kd.R_old (RU HO_354000.out) hb) (Kd.R_base ho0)) (Kd.R_base ho1)) (fun _ h_ => h_.1))
               replace HO_354001 := Aside0.mk (Kd.R_mono (Kd.R_told (Kd.R_told (Kd.R_old (RU HO_354001.out) hb) (Kd.R_base ho0)) (Kd.R_base ho1)) (fun _ h_ => h_.1))
               replace HO382 := Aside0.mk (Kd.R_mono (Kd.R_told (Kd.R_told (Kd.R_old (RU HO382.out) hb) (Kd.R_base ho0)) (Kd.R_base ho1)) (fun _ h_ => h_.1))
               replace HO385 := Aside0.mk (Kd.R_mono (Kd.R_told (Kd.R_told (Kd.R_old (RU HO385.out) hb) (Kd.R_base ho0)) (Kd.R_base ho1)) (fun _ h_ => h_.1))
               replace BK308 := Aside0.mk (blk_below (g := gb308) (o := .cells #[.slice A0_0 l0_0.length c0_0, .slice A0_1 l0_1.length c0_1] 24 (0, 0)) (kU BK308.out) hb)
               replace BK309 := Aside0.mk (blk_below (g := gb309) (o := .cells #[.slice A1_0 l1_0.length c1_0, .slice A1_1 l1_1.length c1_1] 24 (0, 0)) (kU BK309.out) hb)
               replace BK331 := Aside0.mk (blk_below (g := gb331) (o := .cells #[.slice Ao43 t324.length co43, .slice Ao45 t327.length co45] 26 (0, 0)) (kU BK331.out) hb)
               replace BK338 := Aside0.mk (blk_below (g := gb338) (o := .cells #[.slice Ao51 t370.length co51, .slice Ao56 t371.length co56] 26 (0, 0)) (kU BK338.out) hb)
               replace BK345 := Aside0.mk (blk_below (g := gb345) (o := .cells #[.slice Ao61 t373.length co61, .slice Ao67 t374.length co67] 26 (0, 0)) (kU BK345.out) hb)
               replace BK353 := Aside0.mk (blk_below (g := gb353) (o := .cells #[.slice Ao71 t346.length co71, .slice Ao78 t349.length co78] 26 (0, 0)) (kU BK353.out) hb)
               replace BK399 := Aside0.mk (blk_below (g := gb399) (o := .cells #[.slice none 0 0, .slice none 0 0] 26 (0, 0)) (kU BK399.out) hb)
               replace HB := Aside0.mk (below_step (by repeat (first | (with_reducible first | exact HB.out | apply below_alloc | apply pw_below_drewN | apply below_drew1 | refine below_set ?_ GE308.out | refine below_set ?_ GE309.out | refine below_set ?_ GE331.out | refine below_set ?_ GE338.out | refine below_set ?_ GE345.out | refine below_set ?_ GE353.out | refine below_set ?_ GE399.out) | exact HB.out)) hb)
               (try clear hb)
               (try clear hb2)
               (try clear hk)
               (try clear hi)
               (try clear ho0)
               (try clear ho1)
               obtain ⟨Ao163, co163, eo163⟩ := Kd.R_slice HO382.out
               (first | subst eo163 | (injection eo163 with f1_ f2_ f3_; have f4_ := f1_.symm; have f5_ := f3_.symm; clear f1_ f2_ f3_; subst f4_; subst f5_))
               obtain ⟨Ao164, co164, eo164⟩ := Kd.R_slice HO385.out
               (first | subst eo164 | (injection eo164 with f1_ f2_ f3_; have f4_ := f1_.symm; have f5_ := f3_.symm; clear f1_ f2_ f3_; subst f4_; subst f5_))
               obtain ⟨Ao165, co165, eo165⟩ := Kd.R_slice HO388.out
               (first | subst eo165 | (injection eo165 with f1_ f2_ f3_; have f4_ := f1_.symm; have f5_ := f3_.symm; clear f1_ f2_ f3_; subst f4_; subst f5_))
               obtain ⟨Ao166, co166, eo166⟩ := Kd.R_slice HO391.out
               (first | subst eo166 | (injection eo166 with f1_ f2_ f3_; have f4_ := f1_.symm; have f5_ := f3_.symm; clear f1_ f2_ f3_; subst f4_; subst f5_))
               refine hK.out _ _ ⟨(blk_cell BK308.out 0).trans rfl, (blk_cell BK308.out 1).trans rfl, (blk_cell BK309.out 0).trans rfl, (blk_cell BK309.out 1).trans rfl⟩ (fun hHeld => ?_)
               clear hK K
               refine norm_ (a' := ?_) ?_ ?_
               rotate_left
               ·
                show Act.put _ (some 98) _ = _
                simp only [Act.put, List.setIfInBounds_toArray, List.set_cons_zero, List.set_cons_succ, i64_w, i32_w]
                rfl
               refine one_ (i := 4) (N := some 99) #[true, true, true, true, true, false, false, false, true, false, false] rfl rfl (one_of HT_.out (by kernel_rfl)) (by decide) (fun K hK => ?_)
               refine goes_ Try.func40 (by kernel_rfl) rfl #[.agg #[.slice Ao163 t380.length co163, .slice Ao164 t383.length co164], .agg #[.slice Ao165 t386.length co165, .slice Ao166 t389.length co166]] (by rfl) rfl rfl (by (try simp only [List.map_toArray, List.map_cons, List.map_nil]); first | done | rfl | (simp only [List.length_drop, List.length_take]; rfl)) ?_
               with_reducible refine (impl_Rotate.calls kj101 _ _ t380 _ _ t383 _ _ t386 _ _ t389 t392 t395 t398 _ ?side1 ?side2 ?side3 ?side4 ?side5 ?side6 ?side7 ?side8 A148.out).mono ?_
               (case side1 => exact cU (Kd.R_reads' HO382.out).2.2)
               (case side2 => exact (Kd.R_reads' HO382.out).2.1)
               (case side3 => exact cU (Kd.R_reads' HO385.out).2.2)
               (case side4 => exact (Kd.R_reads' HO385.out).2.1)
               (case side5 => exact cU (Kd.R_reads' HO388.out).2.2)
               (case side6 => exact (Kd.R_reads' HO388.out).2.1)
               (case side7 => exact cU (Kd.R_reads' HO391.out).2.2)
               (case side8 => exact (Kd.R_reads' HO391.out).2.1)
               rintro e w167 ⟨v393, v396, rfl, ho0, ho1, hb⟩
               refine ⟨_, rfl, ?_⟩
               have HO394 := Aside0.mk (Kd.R_lower (Kd.R_new' (Kd.R_new' (Kd.R_new' (Kd.R_new' (Kd.R_new' (Kd.R_new' (Kd.R_new' (Kd.R_new' (Kd.R_new' (Kd.R_new' (Kd.R_new' (Kd.R_new' ho0 (Kd.R_lt (RU HO_332000.out))) (Kd.R_lt (RU HO_332001.out))) (Kd.R_lt (RU HO_339000.out))) (Kd.R_lt (RU HO_339001.out))) (Kd.R_lt (RU HO_346000.out))) (Kd.R_lt (RU HO_346001.out))) (Kd.R_lt (RU HO_354000.out))) (Kd.R_lt (RU HO_354001.out))) (Kd.R_lt (RU HO382.out))) (Kd.R_lt (RU HO385.out))) (Kd.R_lt (RU HO388.out))) (Kd.R_lt (RU HO391.out))) (below_size (by repeat (first | (with_reducible first | exact HB.out | apply below_alloc | apply pw_below_drewN | apply below_drew1 | refine below_set ?_ GE308.out | refine below_set ?_ GE309.out | refine below_set ?_ GE331.out | refine below_set ?_ GE338.out | refine below_set ?_ GE345.out | refine below_set ?_ GE353.out | refine below_set ?_ GE399.out) | exact HB.out))))
               have HO397 := Aside0.mk (Kd.R_lower (Kd.R_new' (Kd.R_new' (Kd.R_new' (Kd.R_new' (Kd.R_new' (Kd.R_new' (Kd.R_new' (Kd.R_new' (Kd.R_new' (Kd.R_new' (Kd.R_new' (Kd.R_new' ho1 (Kd.R_lt (RU HO_332000.out))) (Kd.R_lt (RU HO_332001.out))) (Kd.R_lt (RU HO_339000.out))) (Kd.R_lt (RU HO_339001.out))) (Kd.R_lt (RU HO_346000.out))) (Kd.R_lt (RU HO_346001.out))) (Kd.R_lt (RU HO_354000.out))) (Kd.R_lt (RU HO_354001.out))) (Kd.R_lt (RU HO382.out))) (Kd.R_lt (RU HO385.out))) (Kd.R_lt (RU HO388.out))) (Kd.R_lt (RU HO391.out))) (below_size (by repeat (first | (with_reducible first | exact HB.out | apply below_alloc | apply pw_below_drewN | apply below_drew1 | refine below_set ?_ GE308.out | refine below_set ?_ GE309.out | refine below_set ?_ GE331.out | refine below_set ?_ GE338.out | refine below_set ?_ GE345.out | refine below_set ?_ GE353.out | refine below_set ?_ GE399.out) | exact HB.out))))
               replace HO_332000 := Aside0.mk (Kd.R_mono (Kd.R_told (Kd.R_told (Kd.R_old (RU HO_332000.out) hb) (Kd.R_base ho0)) (Kd.R_base ho1)) (fun _ h_ => h_.1))
               replace HO_332001 := Aside0.mk (Kd.R_mono (Kd.R_told (Kd.R_told (Kd.R_old (RU HO_332001.out) hb) (Kd.R_base ho0)) (Kd.R_base ho1)) (fun _ h_ => h_.1))
               replace HO_339000 := Aside0.mk (Kd.R_mono (Kd.R_told (Kd.R_told (Kd.R_old (RU HO_339000.out) hb) (Kd.R_base ho0)) (Kd.R_base ho1)) (fun _ h_ => h_.1))
               replace HO_339001 := Aside0.mk (Kd.R_mono (Kd.R_told (Kd.R_told (Kd.R_old (RU HO_339001.out) hb) (Kd.R_base ho0)) (Kd.R_base ho1)) (fun _ h_ => h_.1))
               replace HO_346000 := Aside0.mk (Kd.R_mono (Kd.R_told (Kd.R_told (Kd.R_old (RU HO_346000.out) hb) (Kd.R_base ho0)) (Kd.R_base ho1)) (fun _ h_ => h_.1))
               replace HO_346001 := Aside0.mk (Kd.R_mono (Kd.R_told (Kd.R_told (Kd.R_old (RU HO_346001.out) hb) (Kd.R_base ho0)) (Kd.R_base ho1)) (fun _ h_ => h_.1))
               replace HO_354000 := Aside0.mk (Kd.R_mono (Kd.R_told (Kd.R_told (Kd.R_old (RU HO_354000.out) hb) (Kd.R_base ho0)) (Kd.R_base ho1)) (fun _ h_ => h_.1))
               replace HO_354001 := Aside0.mk (Kd.R_mono (Kd.R_told (Kd.R_told (Kd.R_old (RU HO_354001.out) hb) (Kd.R_base ho0)) (Kd.R_base ho1)) (fun _ h_ => h_.1))
               replace HO382 := Aside0.mk (Kd.R_mono (Kd.R_told (Kd.R_told (Kd.R_old (RU HO382.out) hb) (Kd.R_base ho0)) (Kd.R_base ho1)) (fun _ h_ => h_.1))
               replace HO385 := Aside0.mk (Kd.R_mono (Kd.R_told (Kd.R_told (Kd.R_old (RU HO385.out) hb) (Kd.R_base ho0)) (Kd.R_base ho1)) (fun _ h_ => h_.1))
               replace HO388 := Aside0.mk (Kd.R_mono (Kd.R_told (Kd.R_told (Kd.R_old (RU HO388.out) hb) (Kd.R_base ho0)) (Kd.R_base ho1)) (fun _ h_ => h_.1))
               replace HO391 := Aside0.mk (Kd.R_mono (Kd.R_told (Kd.R_told (Kd.R_old (RU HO391.out) hb) (Kd.R_base ho0)) (Kd.R_base ho1)) (fun _ h_ => h_.1))
               replace BK308 := Aside0.mk (blk_below (g := gb308) (o := .cells #[.slice A0_0 l0_0.length c0_0, .slice A0_1 l0_1.length c0_1] 24 (0, 0)) (kU BK308.out) hb)
               replace BK309 := Aside0.mk (blk_below (g := gb309) (o := .cells #[.slice A1_0 l1_0.length c1_0, .slice A1_1 l1_1.length c1_1] 24 (0, 0)) (kU BK309.out) hb)
               replace BK331 := Aside0.mk (blk_below (g := gb331) (o := .cells #[.slice Ao43 t324.length co43, .slice Ao45 t327.length co45] 26 (0, 0)) (kU BK331.out) hb)
               replace BK338 := Aside0.mk (blk_below (g := gb338) (o := .cells #[.slice Ao51 t370.length co51, .slice Ao56 t371.length co56] 26 (0, 0)) (kU BK338.out) hb)
               replace BK345 := Aside0.mk (blk_below (g := gb345) (o := .cells #[.slice Ao61 t373.length co61, .slice Ao67 t374.length co67] 26 (0, 0)) (kU BK345.out) hb)
               replace BK353 := Aside0.mk (blk_below (g := gb353) (o := .cells #[.slice Ao71 t346.length co71, .slice Ao78 t349.length co78] 26 (0, 0)) (kU BK353.out) hb)
               replace BK399 := Aside0.mk (blk_below (g := gb399) (o := .cells #[.slice none 0 0, .slice none 0 0] 26 (0, 0)) (kU BK399.out) hb)
               replace HB := Aside0.mk (below_step (by repeat (first | (with_reducible first | exact HB.out | apply below_alloc | apply pw_below_drewN | apply below_drew1 | refine below_set ?_ GE308.out | refine below_set ?_ GE309.out | refine below_set ?_ GE331.out | refine below_set ?_ GE338.out | refine below_set ?_ GE345.out | refine below_set ?_ GE353.out | refine below_set ?_ GE399.out) | exact HB.out)) hb)
               (try clear hb)
               (try clear hb2)
               (try clear hk)
               (try clear hi)
               (try clear ho0)
               (try clear ho1)
               refine hK.out _ _ ⟨(blk_cell BK308.out 0).trans rfl, (blk_cell BK308.out 1).trans rfl, (blk_cell BK309.out 0).trans rfl, (blk_cell BK309.out 1).trans rfl⟩ (fun hHeld => ?_)
               clear hK K
               refine norm_ (a' := ?_) ?_ ?_
               rotate_left
               ·
                show Act.put _ (some 99) _ = _
                simp only [Act.put, List.setIfInBounds_toArray, List.set_cons_zero, List.set_cons_succ, i64_w, i32_w]
                rfl
               refine pure_ (i := 5) (N := some 94) (v := ?_) (a' := ?_) #[true, true, true, true, true, true, false, false, true, false, false] rfl rfl (any_of HT_.out (by kernel_rfl)) (fun _ _ _ h => h) (Or.inl ⟨by rfl, ?_⟩) ?_ ?_
               rotate_left
               ·
                intro w'
                go_simp
                with_reducible rfl
               rotate_left
               ·
                simp only [Act.put, List.setIfInBounds_toArray, List.set_cons_zero, List.set_cons_succ, i64_w, i32_w]
                rfl
               refine pure_ (i := 6) (N := some 100) (v := ?_) (a' := ?_) #[true, true, true, true, true, true, true, false, true, false, false] rfl rfl (any_of HT_.out (by kernel_rfl)) (fun _ _ _ h => h) (Or.inl ⟨by rfl, ?_⟩) ?_ ?_
               rotate_left
               ·
                intro w'
                go_simp
                with_reducible rfl
               rotate_left
               ·
                simp only [Act.put, List.setIfInBounds_toArray, List.set_cons_zero, List.set_cons_succ, i64_w, i32_w]
                rfl
               refine pure_ (i := 7) (N := some 101) (v := ?_) (a' := ?_) #[true, true, true, true, true, true, true, true, true, false, false] rfl rfl (any_of HT_.out (by kernel_rfl)) (fun _ _ _ h => h) (Or.inl ⟨by rfl, ?_⟩) ?_ ?_
               rotate_left
               ·
                intro w'
                go_simp
                with_reducible rfl
               rotate_left
               ·
                simp only [Act.put, List.setIfInBounds_toArray, List.set_cons_zero, List.set_cons_succ, i64_w, i32_w]
                rfl
               exact norm_ (by simp only [putAll, Act.put, List.setIfInBounds_toArray, List.set_cons_zero, List.set_cons_succ]) (hCont (.slice Ao163 t380.length co163, .slice Ao164 t383.length co164, .slice Ao165 t386.length co165, .slice Ao166 t389.length co166, v393, v396, gb399) _ ⟨hHeld, (by (with_reducible repeat (first | apply Kd.R_alloc | apply Kd.R_drewN | apply Kd.R_drew)); exact Kd.R_mono HO382.out (fun _ hk => ⟨hk.1.1.1.1.1.1.1.1.1.1.1.1, ⟨hk.1.1.1.2, ⟨hk.1.1.2, ⟨hk.1.2, ⟨hk.2, ⟨hk.1.1.1.1.1.1.1.1.1.1.1.2, ⟨hk.1.1.1.1.1.1.1.1.1.1.2, ⟨hk.1.1.1.1.1.1.1.1.1.2, ⟨hk.1.1.1.1.1.1.1.1.2, ⟨hk.1.1.1.1.1.1.1.2, ⟨hk.1.1.1.1.1.1.2, ⟨hk.1.1.1.1.1.2, hk.1.1.1.1.2⟩⟩⟩⟩⟩⟩⟩⟩⟩⟩⟩⟩)), (by (with_reducible repeat (first | apply Kd.R_alloc | apply Kd.R_drewN | apply Kd.R_drew)); exact Kd.R_mono HO385.out (fun _ hk => ⟨hk.1.1.1.1.1.1.1.1.1.1.1.1, ⟨hk.1.1.1.2, ⟨hk.1.1.2, ⟨hk.1.2, ⟨hk.2, ⟨hk.1.1.1.1.1.1.1.1.1.1.1.2, ⟨hk.1.1.1.1.1.1.1.1.1.1.2, ⟨hk.1.1.1.1.1.1.1.1.1.2, ⟨hk.1.1.1.1.1.1.1.1.2, ⟨hk.1.1.1.1.1.1.1.2, ⟨hk.1.1.1.1.1.1.2, ⟨hk.1.1.1.1.1.2, hk.1.1.1.1.2⟩⟩⟩⟩⟩⟩⟩⟩⟩⟩⟩⟩)), (by (with_reducible repeat (first | apply Kd.R_alloc | apply Kd.R_drewN | apply Kd.R_drew)); exact Kd.R_mono HO388.out (fun _ hk => ⟨hk.1.1.1.2, ⟨hk.1.1.2, ⟨hk.1.1.1.1.1.1.1.1.1.1.1.1, ⟨hk.1.2, ⟨hk.2, ⟨hk.1.1.1.1.1.1.1.1.1.1.1.2, ⟨hk.1.1.1.1.1.1.1.1.1.1.2, ⟨hk.1.1.1.1.1.1.1.1.1.2, ⟨hk.1.1.1.1.1.1.1.1.2, ⟨hk.1.1.1.1.1.1.1.2, ⟨hk.1.1.1.1.1.1.2, ⟨hk.1.1.1.1.1.2, hk.1.1.1.1.2⟩⟩⟩⟩⟩⟩⟩⟩⟩⟩⟩⟩)), (by (with_reducible repeat (first | apply Kd.R_alloc | apply Kd.R_drewN | apply Kd.R_drew)); exact Kd.R_mono HO391.out (fun _ hk => ⟨hk.1.1.1.2, ⟨hk.1.1.2, ⟨hk.1.1.1.1.1.1.1.1.1.1.1.1, ⟨hk.1.2, ⟨hk.2, ⟨hk.1.1.1.1.1.1.1.1.1.1.1.2, ⟨hk.1.1.1.1.1.1.1.1.1.1.2, ⟨hk.1.1.1.1.1.1.1.1.1.2, ⟨hk.1.1.1.1.1.1.1.1.2, ⟨hk.1.1.1.1.1.1.1.2, ⟨hk.1.1.1.1.1.1.2, ⟨hk.1.1.1.1.1.2, hk.1.1.1.1.2⟩⟩⟩⟩⟩⟩⟩⟩⟩⟩⟩⟩)), (by (with_reducible repeat (first | apply Kd.R_alloc | apply Kd.R_drewN | apply Kd.R_drew)); exact Kd.R_mono HO394.out (fun _ hk => ⟨hk.1.1.1.2, ⟨hk.1.1.2, ⟨hk.1.2, ⟨hk.2, ⟨hk.1.1.1.1.1.1.1.1.1.1.1.1, ⟨hk.1.1.1.1.1.1.1.1.1.1.1.2, ⟨hk.1.1.1.1.1.1.1.1.1.1.2, ⟨hk.1.1.1.1.1.1.1.1.1.2, ⟨hk.1.1.1.1.1.1.1.1.2, ⟨hk.1.1.1.1.1.1.1.2, ⟨hk.1.1.1.1.1.1.2, ⟨hk.1.1.1.1.1.2, hk.1.1.1.1.2⟩⟩⟩⟩⟩⟩⟩⟩⟩⟩⟩⟩)), (by (with_reducible repeat (first | apply Kd.R_alloc | apply Kd.R_drewN | apply Kd.R_drew)); exact Kd.R_mono HO397.out (fun _ hk => ⟨hk.1.1.1.2, ⟨hk.1.1.2, ⟨hk.1.2, ⟨hk.2, ⟨hk.1.1.1.1.1.1.1.1.1.1.1.1, ⟨hk.1.1.1.1.1.1.1.1.1.1.1.2, ⟨hk.1.1.1.1.1.1.1.1.1.1.2, ⟨hk.1.1.1.1.1.1.1.1.1.2, ⟨hk.1.1.1.1.1.1.1.1.2, ⟨hk.1.1.1.1.1.1.1.2, ⟨hk.1.1.1.1.1.1.2, ⟨hk.1.1.1.1.1.2, hk.1.1.1.1.2⟩⟩⟩⟩⟩⟩⟩⟩⟩⟩⟩⟩)), (by (with_reducible repeat (first | apply Kd.R_alloc | apply Kd.R_drewN | apply Kd.R_drew)); exact Kd.R_mono HO_332000.out (fun _ hk => ⟨hk.1.1.1.1.1.2, ⟨hk.1.1.1.1.2, ⟨hk.1.1.1.2, ⟨hk.1.1.2, ⟨hk.1.2, ⟨hk.2, ⟨hk.1.1.1.1.1.1.1, ⟨hk.1.1.1.1.1.1.2.1, ⟨hk.1.1.1.1.1.1.2.2.1, ⟨hk.1.1.1.1.1.1.2.2.2.1, ⟨hk.1.1.1.1.1.1.2.2.2.2.1, ⟨hk.1.1.1.1.1.1.2.2.2.2.2.1, hk.1.1.1.1.1.1.2.2.2.2.2.2⟩⟩⟩⟩⟩⟩⟩⟩⟩⟩⟩⟩)), (by (with_reducible repeat (first | apply Kd.R_alloc | apply Kd.R_drewN | apply Kd.R_drew)); exact Kd.R_mono HO_332001.out (fun _ hk => ⟨hk.1.1.1.1.1.2, ⟨hk.1.1.1.1.2, ⟨hk.1.1.1.2, ⟨hk.1.1.2, ⟨hk.1.2, ⟨hk.2, ⟨hk.1.1.1.1.1.1.1, ⟨hk.1.1.1.1.1.1.2.1, ⟨hk.1.1.1.1.1.1.2.2.1, ⟨hk.1.1.1.1.1.1.2.2.2.1, ⟨hk.1.1.1.1.1.1.2.2.2.2.1, ⟨hk.1.1.1.1.1.1.2.2.2.2.2.1, hk.1.1.1.1.1.1.2.2.2.2.2.2⟩⟩⟩⟩⟩⟩⟩⟩⟩⟩⟩⟩)), (by (with_reducible repeat (first | apply Kd.R_alloc | apply Kd.R_drewN | apply Kd.R_drew)); exact Kd.R_mono HO_339000.out (fun _ hk => ⟨hk.1.1.1.1.1.2, ⟨hk.1.1.1.1.2, ⟨hk.1.1.1.2, ⟨hk.1.1.2, ⟨hk.1.2, ⟨hk.2, ⟨hk.1.1.1.1.1.1.1, ⟨hk.1.1.1.1.1.1.2.1, ⟨hk.1.1.1.1.1.1.2.2.1, ⟨hk.1.1.1.1.1.1.2.2.2.1, ⟨hk.1.1.1.1.1.1.2.2.2.2.1, ⟨hk.1.1.1.1.1.1.2.2.2.2.2.1, hk.1.1.1.1.1.1.2.2.2.2.2.2⟩⟩⟩⟩⟩⟩⟩⟩⟩⟩⟩⟩)), (by (with_reducible repeat (first | apply Kd.R_alloc | apply Kd.R_drewN | apply Kd.R_drew)); exact Kd.R_mono HO_339001.out (fun _ hk => ⟨hk.1.1.1.1.1.2, ⟨hk.1.1.1.1.2, ⟨hk.1.1.1.2, ⟨hk.1.1.2, ⟨hk.1.2, ⟨hk.2, ⟨hk.1.1.1.1.1.1.1, ⟨hk.1.1.1.1.1.1.2.1, ⟨hk.1.1.1.1.1.1.2.2.1, ⟨hk.1.1.1.1.1.1.2.2.2.1, ⟨hk.1.1.1.1.1.1.2.2.2.2.1, ⟨hk.1.1.1.1.1.1.2.2.2.2.2.1, hk.1.1.1.1.1.1.2.2.2.2.2.2⟩⟩⟩⟩⟩⟩⟩⟩⟩⟩⟩⟩)), (by (with_reducible repeat (first | apply Kd.R_alloc | apply Kd.R_drewN | apply Kd.R_drew)); exact Kd.R_mono HO_346000.out (fun _ hk => ⟨hk.1.1.1.1.1.2, ⟨hk.1.1.1.1.2, ⟨hk.1.1.1.2, ⟨hk.1.1.2, ⟨hk.1.2, ⟨hk.2, ⟨hk.1.1.1.1.1.1.1, ⟨hk.1.1.1.1.1.1.2.1, ⟨hk.1.1.1.1.1.1.2.2.1, ⟨hk.1.1.1.1.1.1.2.2.2.1, ⟨hk.1.1.1.1.1.1.2.2.2.2.1, ⟨hk.1.1.1.1.1.1.2.2.2.2.2.1, hk.1.1.1.1.1.1.2.2.2.2.2.2⟩⟩⟩⟩⟩⟩⟩⟩⟩⟩⟩⟩)), (by (with_reducible repeat (first | apply Kd.R_alloc | apply Kd.R_drewN | apply Kd.R_drew)); exact Kd.R_mono HO_346001.out (fun _ hk => ⟨hk.1.1.1.1.1.2, ⟨hk.1.1.1.1.2, ⟨hk.1.1.1.2, ⟨hk.1.1.2, ⟨hk.1.2, ⟨hk.2, ⟨hk.1.1.1.1.1.1.1, ⟨hk.1.1.1.1.1.1.2.1, ⟨hk.1.1.1.1.1.1.2.2.1, ⟨hk.1.1.1.1.1.1.2.2.2.1, ⟨hk.1.1.1.1.1.1.2.2.2.2.1, ⟨hk.1.1.1.1.1.1.2.2.2.2.2.1, hk.1.1.1.1.1.1.2.2.2.2.2.2⟩⟩⟩⟩⟩⟩⟩⟩⟩⟩⟩⟩)), (by (with_reducible repeat (first | apply Kd.R_alloc | apply Kd.R_drewN | apply Kd.R_drew)); exact Kd.R_mono HO_354000.out (fun _ hk => ⟨hk.1.1.1.1.1.2, ⟨hk.1.1.1.1.2, ⟨hk.1.1.1.2, ⟨hk.1.1.2, ⟨hk.1.2, ⟨hk.2, ⟨hk.1.1.1.1.1.1.1, ⟨hk.1.1.1.1.1.1.2.1, ⟨hk.1.1.1.1.1.1.2.2.1, ⟨hk.1.1.1.1.1.1.2.2.2.1, ⟨hk.1.1.1.1.1.1.2.2.2.2.1, ⟨hk.1.1.1.1.1.1.2.2.2.2.2.1, hk.1.1.1.1.1.1.2.2.2.2.2.2⟩⟩⟩⟩⟩⟩⟩⟩⟩⟩⟩⟩)), (by (with_reducible repeat (first | apply Kd.R_alloc | apply Kd.R_drewN | apply Kd.R_drew)); exact Kd.R_mono HO_354001.out (fun _ hk => ⟨hk.1.1.1.1.1.2, ⟨hk.1.1.1.1.2, ⟨hk.1.1.1.2, ⟨hk.1.1.2, ⟨hk.1.2, ⟨hk.2, ⟨hk.1.1.1.1.1.1.1, ⟨hk.1.1.1.1.1.1.2.1, ⟨hk.1.1.1.1.1.1.2.2.1, ⟨hk.1.1.1.1.1.1.2.2.2.1, ⟨hk.1.1.1.1.1.1.2.2.2.2.1, ⟨hk.1.1.1.1.1.1.2.2.2.2.2.1, hk.1.1.1.1.1.1.2.2.2.2.2.2⟩⟩⟩⟩⟩⟩⟩⟩⟩⟩⟩⟩)), (kU BK308.out), (kU BK309.out), (kU BK331.out), (kU BK338.out), (kU BK345.out), (kU BK353.out), (kU BK399.out), GW399.out, GE399.out, NB308_399.out, NB399_308.out, NB309_399.out, NB399_309.out, NB331_399.out, NB399_331.out, NB338_399.out, NB399_338.out, NB345_399.out, NB399_345.out, NB353_399.out, NB399_353.out, (by repeat (first | (with_reducible first | exact HB.out | apply below_alloc | apply pw_below_drewN | apply below_drew1 | refine below_set ?_ GE308.out | refine below_set ?_ GE309.out | refine below_set ?_ GE331.out | refine below_set ?_ GE338.out | refine below_set ?_ GE345.out | refine below_set ?_ GE353.out | refine below_set ?_ GE399.out) | exact HB.out))⟩)
             rintro ⟨v381, v384, v387, v390, v393, v396, gb399⟩ w168 ⟨hS_, h0_, h1_, h2_, h3_, h4_, h5_, h6_, h7_, h8_, h9_, h10_, h11_, h12_, h13_, h14_, h15_, h16_, h17_, h18_, h19_, h20_, h21_, h22_, h23_, h24_, h25_, h26_, h27_, h28_, h29_, h30_, h31_, h32_, h33_, h34_, h35_⟩
             have n0_ : Aside0 (Kd.R (Kd.int .i64) 3 w168 w.heap.size (fun k_ => some k_ ≠ (v384 : Value).ownBlock ∧ some k_ ≠ (v387 : Value).ownBlock ∧ some k_ ≠ (v390 : Value).ownBlock ∧ some k_ ≠ (v393 : Value).ownBlock ∧ some k_ ≠ (v396 : Value).ownBlock ∧ some k_ ≠ (.slice Ao43 t324.length co43 : Value).ownBlock ∧ some k_ ≠ (.slice Ao45 t327.length co45 : Value).ownBlock ∧ some k_ ≠ (.slice Ao51 t370.length co51 : Value).ownBlock ∧ some k_ ≠ (.slice Ao56 t371.length co56 : Value).ownBlock ∧ some k_ ≠ (.slice Ao61 t373.length co61 : Value).ownBlock ∧ some k_ ≠ (.slice Ao67 t374.length co67 : Value).ownBlock ∧ some k_ ≠ (.slice Ao71 t346.length co71 : Value).ownBlock ∧ some k_ ≠ (.slice Ao78 t349.length co78 : Value).ownBlock) v381 t380) := ⟨h0_⟩
             have n1_ : Aside0 (Kd.R (Kd.int .i64) 3 w168 w.heap.size (fun k_ => some k_ ≠ (v381 : Value).ownBlock ∧ some k_ ≠ (v387 : Value).ownBlock ∧ some k_ ≠ (v390 : Value).ownBlock ∧ some k_ ≠ (v393 : Value).ownBlock ∧ some k_ ≠ (v396 : Value).ownBlock ∧ some k_ ≠ (.slice Ao43 t324.length co43 : Value).ownBlock ∧ some k_ ≠ (.slice Ao45 t327.length co45 : Value).ownBlock ∧ some k_ ≠ (.slice Ao51 t370.length co51 : Value).ownBlock ∧ some k_ ≠ (.slice Ao56 t371.length co56 : Value).ownBlock ∧ some k_ ≠ (.slice Ao61 t373.length co61 : Value).ownBlock ∧ some k_ ≠ (.slice Ao67 t374.length co67 : Value).ownBlock ∧ some k_ ≠ (.slice Ao71 t346.length co71 : Value).ownBlock ∧ some k_ ≠ (.slice Ao78 t349.length co78 : Value).ownBlock) v384 t383) := ⟨h1_⟩
             have n2_ : Aside0 (Kd.R (Kd.int .i64) 3 w168 w.heap.size (fun k_ => some k_ ≠ (v381 : Value).ownBlock ∧ some k_ ≠ (v384 : Value).ownBlock ∧ some k_ ≠ (v390 : Value).ownBlock ∧ some k_ ≠ (v393 : Value).ownBlock ∧ some k_ ≠ (v396 : Value).ownBlock ∧ some k_ ≠ (.slice Ao43 t324.length co43 : Value).ownBlock ∧ some k_ ≠ (.slice Ao45 t327.length co45 : Value).ownBlock ∧ some k_ ≠ (.slice Ao51 t370.length co51 : Value).ownBlock ∧ some k_ ≠ (.slice Ao56 t371.length co56 : Value).ownBlock ∧ some k_ ≠ (.slice Ao61 t373.length co61 : Value).ownBlock ∧ some k_ ≠ (.slice Ao67 t374.length co67 : Value).ownBlock ∧ some k_ ≠ (.slice Ao71 t346.length co71 : Value).ownBlock ∧ some k_ ≠ (.slice Ao78 t349.length co78 : Value).ownBlock) v387 t386) := ⟨h2_⟩
             have n3_ : Aside0 (Kd.R (Kd.int .i64) 3 w168 w.heap.size (fun k_ => some k_ ≠ (v381 : Value).ownBlock ∧ some k_ ≠ (v384 : Value).ownBlock ∧ some k_ ≠ (v387 : Value).ownBlock ∧ some k_ ≠ (v393 : Value).ownBlock ∧ some k_ ≠ (v396 : Value).ownBlock ∧ some k_ ≠ (.slice Ao43 t324.length co43 : Value).ownBlock ∧ some k_ ≠ (.slice Ao45 t327.length co45 : Value).ownBlock ∧ some k_ ≠ (.slice Ao51 t370.length co51 : Value).ownBlock ∧ some k_ ≠ (.slice Ao56 t371.length co56 : Value).ownBlock ∧ some k_ ≠ (.slice Ao61 t373.length co61 : Value).ownBlock ∧ some k_ ≠ (.slice Ao67 t374.length co67 : Value).ownBlock ∧ some k_ ≠ (.slice Ao71 t346.length co71 : Value).ownBlock ∧ some k_ ≠ (.slice Ao78 t349.length co78 : Value).ownBlock) v390 t389) := ⟨h3_⟩
             have n4_ : Aside0 (Kd.R (Kd.int .i64) 3 w168 w.heap.size (fun k_ => some k_ ≠ (v381 : Value).ownBlock ∧ some k_ ≠ (v384 : Value).ownBlock ∧ some k_ ≠ (v387 : Value).ownBlock ∧ some k_ ≠ (v390 : Value).ownBlock ∧ some k_ ≠ (v396 : Value).ownBlock ∧ some k_ ≠ (.slice Ao43 t324.length co43 : Value).ownBlock ∧ some k_ ≠ (.slice Ao45 t327.length co45 : Value).ownBlock ∧ some k_ ≠ (.slice Ao51 t370.length co51 : Value).ownBlock ∧ some k_ ≠ (.slice Ao56 t371.length co56 : Value).ownBlock ∧ some k_ ≠ (.slice Ao61 t373.length co61 : Value).ownBlock ∧ some k_ ≠ (.slice Ao67 t374.length co67 : Value).ownBlock ∧ some k_ ≠ (.slice Ao71 t346.length co71 : Value).ownBlock ∧ some k_ ≠ (.slice Ao78 t349.length co78 : Value).ownBlock) v393 t392) := ⟨h4_⟩
             have n5_ : Aside0 (Kd.R (Kd.int .i64) 3 w168 w.heap.size (fun k_ => some k_ ≠ (v381 : Value).ownBlock ∧ some k_ ≠ (v384 : Value).ownBlock ∧ some k_ ≠ (v387 : Value).ownBlock ∧ some k_ ≠ (v390 : Value).ownBlock ∧ some k_ ≠ (v393 : Value).ownBlock ∧ some k_ ≠ (.slice Ao43 t324.length co43 : Value).ownBlock ∧ some k_ ≠ (.slice Ao45 t327.length co45 : Value).ownBlock ∧ some k_ ≠ (.slice Ao51 t370.length co51 : Value).ownBlock ∧ some k_ ≠ (.slice Ao56 t371.length co56 : Value).ownBlock ∧ some k_ ≠ (.slice Ao61 t373.length co61 : Value).ownBlock ∧ some k_ ≠ (.slice Ao67 t374.length co67 : Value).ownBlock ∧ some k_ ≠ (.slice Ao71 t346.length co71 : Value).ownBlock ∧ some k_ ≠ (.slice Ao78 t349.length co78 : Value).ownBlock) v396 t395) := ⟨h5_⟩
             have n6_ : Aside0 (Kd.R (Kd.int .i64) 3 w168 w.heap.size (fun k_ => some k_ ≠ (v381 : Value).ownBlock ∧ some k_ ≠ (v384 : Value).ownBlock ∧ some k_ ≠ (v387 : Value).ownBlock ∧ some k_ ≠ (v390 : Value).ownBlock ∧ some k_ ≠ (v393 : Value).ownBlock ∧ some k_ ≠ (v396 : Value).ownBlock ∧ some k_ ≠ (.slice Ao45 t327.length co45 : Value).ownBlock ∧ some k_ ≠ (.slice Ao51 t370.length co51 : Value).ownBlock ∧ some k_ ≠ (.slice Ao56 t371.length co56 : Value).ownBlock ∧ some k_ ≠ (.slice Ao61 t373.length co61 : Value).ownBlock ∧ some k_ ≠ (.slice Ao67 t374.length co67 : Value).ownBlock ∧ some k_ ≠ (.slice Ao71 t346.length co71 : Value).ownBlock ∧ some k_ ≠ (.slice Ao78 t349.length co78 : Value).ownBlock) (.slice Ao43 t324.length co43) t324) := ⟨h6_⟩
             have n7_ : Aside0 (Kd.R (Kd.int .i64) 3 w168 w.heap.size (fun k_ => some k_ ≠ (v381 : Value).ownBlock ∧ some k_ ≠ (v384 : Value).ownBlock ∧ some k_ ≠ (v387 : Value).ownBlock ∧ some k_ ≠ (v390 : Value).ownBlock ∧ some k_ ≠ (v393 : Value).ownBlock ∧ some k_ ≠ (v396 : Value).ownBlock ∧ some k_ ≠ (.slice Ao43 t324.length co43 : Value).ownBlock ∧ some k_ ≠ (.slice Ao51 t370.length co51 : Value).ownBlock ∧ some k_ ≠ (.slice Ao56 t371.length co56 : Value).ownBlock ∧ some k_ ≠ (.slice Ao61 t373.length co61 : Value).ownBlock ∧ some k_ ≠ (.slice Ao67 t374.length co67 : Value).ownBlock ∧ some k_ ≠ (.slice Ao71 t346.length co71 : Value).ownBlock ∧ some k_ ≠ (.slice Ao78 t349.length co78 : Value).ownBlock) (.slice Ao45 t327.length co45) t327) := ⟨h7_⟩
             have n8_ : Aside0 (Kd.R (Kd.int .i64) 3 w168 w.heap.size (fun k_ => some k_ ≠ (v381 : Value).ownBlock ∧ some k_ ≠ (v384 : Value).ownBlock ∧ some k_ ≠ (v387 : Value).ownBlock ∧ some k_ ≠ (v390 : Value).ownBlock ∧ some k_ ≠ (v393 : Value).ownBlock ∧ some k_ ≠ (v396 : Value).ownBlock ∧ some k_ ≠ (.slice Ao43 t324.length co43 : Value).ownBlock ∧ some k_ ≠ (.slice Ao45 t327.length co45 : Value).ownBlock ∧ some k_ ≠ (.slice Ao56 t371.length co56 : Value).ownBlock ∧ some k_ ≠ (.slice Ao61 t373.length co61 : Value).ownBlock ∧ some k_ ≠ (.slice Ao67 t374.length co67 : Value).ownBlock ∧ some k_ ≠ (.slice Ao71 t346.length co71 : Value).ownBlock ∧ some k_ ≠ (.slice Ao78 t349.length co78 : Value).ownBlock) (.slice Ao51 t370.length co51) t370) := ⟨h8_⟩
             have n9_ : Aside0 (Kd.R (Kd.int .i64) 3 w168 w.heap.size (fun k_ => some k_ ≠ (v381 : Value).ownBlock ∧ some k_ ≠ (v384 : Value).ownBlock ∧ some k_ ≠ (v387 : Value).ownBlock ∧ some k_ ≠ (v390 : Value).ownBlock ∧ some k_ ≠ (v393 : Value).ownBlock ∧ some k_ ≠ (v396 : Value).ownBlock ∧ some k_ ≠ (.slice Ao43 t324.length co43 : Value).ownBlock ∧ some k_ ≠ (.slice Ao45 t327.length co45 : Value).ownBlock ∧ some k_ ≠ (.slice Ao51 t370.length co51 : Value).ownBlock ∧ some k_ ≠ (.slice Ao61 t373.length co61 : Value).ownBlock ∧ some k_ ≠ (.slice Ao67 t374.length co67 : Value).ownBlock ∧ some k_ ≠ (.slice Ao71 t346.length co71 : Value).ownBlock ∧ some k_ ≠ (.slice Ao78 t349.length co78 : Value).ownBlock) (.slice Ao56 t371.length co56) t371) := ⟨h9_⟩
             have n10_ : Aside0 (Kd.R (Kd.int .i64) 3 w168 w.heap.size (fun k_ => some k_ ≠ (v381 : Value).ownBlock ∧ some k_ ≠ (v384 : Value).ownBlock ∧ some k_ ≠ (v387 : Value).ownBlock ∧ some k_ ≠ (v390 : Value).ownBlock ∧ some k_ ≠ (v393 : Value).ownBlock ∧ some k_ ≠ (v396 : Value).ownBlock ∧ some k_ ≠ (.slice Ao43 t324.length co43 : Value).ownBlock ∧ some k_ ≠ (.slice Ao45 t327.length co45 : Value).ownBlock ∧ some k_ ≠ (.slice Ao51 t370.length co51 : Value).ownBlock ∧ some k_ ≠ (.slice Ao56 t371.length co56 : Value).ownBlock ∧ some k_ ≠ (.slice Ao67 t374.length co67 : Value).ownBlock ∧ some k_ ≠ (.slice Ao71 t346.length co71 : Value).ownBlock ∧ some k_ ≠ (.slice Ao78 t349.length co78 : Value).ownBlock) (.slice Ao61 t373.length co61) t373) := ⟨h10_⟩
             have n11_ : Aside0 (Kd.R (Kd.int .i64) 3 w168 w.heap.size (fun k_ => some k_ ≠ (v381 : Value).ownBlock ∧ some k_ ≠ (v384 : Value).ownBlock ∧ some k_ ≠ (v387 : Value).ownBlock ∧ some k_ ≠ (v390 : Value).ownBlock ∧ some k_ ≠ (v393 : Value).ownBlock ∧ some k_ ≠ (v396 : Value).ownBlock ∧ some k_ ≠ (.slice Ao43 t324.length co43 : Value).ownBlock ∧ some k_ ≠ (.slice Ao45 t327.length co45 : Value).ownBlock ∧ some k_ ≠ (.slice Ao51 t370.length co51 : Value).ownBlock ∧ some k_ ≠ (.slice Ao56 t371.length co56 : Value).ownBlock ∧ some k_ ≠ (.slice Ao61 t373.length co61 : Value).ownBlock ∧ some k_ ≠ (.slice Ao71 t346.length co71 : Value).ownBlock ∧ some k_ ≠ (.slice Ao78 t349.length co78 : Value).ownBlock) (.slice Ao67 t374.length co67) t374) := ⟨h11_⟩
             have n12_ : Aside0 (Kd.R (Kd.int .i64) 3 w168 w.heap.size (fun k_ => some k_ ≠ (v381 : Value).ownBlock ∧ some k_ ≠ (v384 : Value).ownBlock ∧ some k_ ≠ (v387 : Value).ownBlock ∧ some k_ ≠ (v390 : Value).ownBlock ∧ some k_ ≠ (v393 : Value).ownBlock ∧ some k_ ≠ (v396 : Value).ownBlock ∧ some k_ ≠ (.slice Ao43 t324.length co43 : Value).ownBlock ∧ some k_ ≠ (.slice Ao45 t327.length co45 : Value).ownBlock ∧ some k_ ≠ (.slice Ao51 t370.length co51 : Value).ownBlock ∧ some k_ ≠ (.slice Ao56 t371.length co56 : Value).ownBlock ∧ some k_ ≠ (.slice Ao61 t373.length co61 : Value).ownBlock ∧ some k_ ≠ (.slice Ao67 t374.length co67 : Value).ownBlock ∧ some k_ ≠ (.slice Ao78 t349.length co78 : Value).ownBlock) (.slice Ao71 t346.length co71) t377) := ⟨h12_⟩
             have n13_ : Aside0 (Kd.R (Kd.int .i64) 3 w168 w.heap.size (fun k_ => some k_ ≠ (v381 : Value).ownBlock ∧ some k_ ≠ (v384 : Value).ownBlock ∧ some k_ ≠ (v387 : Value).ownBlock ∧ some k_ ≠ (v390 : Value).ownBlock ∧ some k_ ≠ (v393 : Value).ownBlock ∧ some k_ ≠ (v396 : Value).ownBlock ∧ some k_ ≠ (.slice Ao43 t324.length co43 : Value).ownBlock ∧ some k_ ≠ (.slice Ao45 t327.length co45 : Value).ownBlock ∧ some k_ ≠ (.slice Ao51 t370.length co51 : Value).ownBlock ∧ some k_ ≠ (.slice Ao56 t371.length co56 : Value).ownBlock ∧ some k_ ≠ (.slice Ao61 t373.length co61 : Value).ownBlock ∧ some k_ ≠ (.slice Ao67 t374.length co67 : Value).ownBlock ∧ some k_ ≠ (.slice Ao71 t346.length co71 : Value).ownBlock) (.slice Ao78 t349.length co78) t378) := ⟨h13_⟩
             have n14_ : Aside0 (w168.heap[gb308]? = some (.cells #[.slice A0_0 l0_0.length c0_0, .slice A0_1 l0_1.length c0_1] 24 (0, 0))) := ⟨h14_⟩
             have n15_ : Aside0 (w168.heap[gb309]? = some (.cells #[.slice A1_0 l1_0.length c1_0, .slice A1_1 l1_1.length c1_1] 24 (0, 0))) := ⟨h15_⟩
             have n16_ : Aside0 (w168.heap[gb331]? = some (.cells #[.slice Ao43 t324.length co43, .slice Ao45 t327.length co45] 26 (0, 0))) := ⟨h16_⟩
             have n17_ : Aside0 (w168.heap[gb338]? = some (.cells #[.slice Ao51 t370.length co51, .slice Ao56 t371.length co56] 26 (0, 0))) := ⟨h17_⟩
             have n18_ : Aside0 (w168.heap[gb345]? = some (.cells #[.slice Ao61 t373.length co61, .slice Ao67 t374.length co67] 26 (0, 0))) := ⟨h18_⟩
             have n19_ : Aside0 (w168.heap[gb353]? = some (.cells #[.slice Ao71 t346.length co71, .slice Ao78 t349.length co78] 26 (0, 0))) := ⟨h19_⟩
             have n20_ : Aside0 (w168.heap[gb399]? = some (.cells #[.slice none 0 0, .slice none 0 0] 26 (0, 0))) := ⟨h20_⟩
             have n21_ : Aside0 (w.heap.size ≤ gb399) := ⟨h21_⟩
             have n22_ : Aside0 (w.heap.size ≤ gb399) := ⟨h22_⟩
             have n23_ : Aside0 (gb308 ≠ gb399) := ⟨h23_⟩
             have n24_ : Aside0 (gb399 ≠ gb308) := ⟨h24_⟩
             have n25_ : Aside0 (gb309 ≠ gb399) := ⟨h25_⟩
             have n26_ : Aside0 (gb399 ≠ gb309) := ⟨h26_⟩
             have n27_ : Aside0 (gb331 ≠ gb399) := ⟨h27_⟩
             have n28_ : Aside0 (gb399 ≠ gb331) := ⟨h28_⟩
             have n29_ : Aside0 (gb338 ≠ gb399) := ⟨h29_⟩
             have n30_ : Aside0 (gb399 ≠ gb338) := ⟨h30_⟩
             have n31_ : Aside0 (gb345 ≠ gb399) := ⟨h31_⟩
             have n32_ : Aside0 (gb399 ≠ gb345) := ⟨h32_⟩
             have n33_ : Aside0 (gb353 ≠ gb399) := ⟨h33_⟩
             have n34_ : Aside0 (gb399 ≠ gb353) := ⟨h34_⟩
             have n35_ : Aside0 (Below w.heap.size w w168) := ⟨h35_⟩
             clear HO_332000 HO_332001 HO_339000 HO_339001 HO_346000 HO_346001 HO_354000 HO_354001 BK308 BK309 BK331 BK338 BK345 BK353 HB
             clear h0_ h1_ h2_ h3_ h4_ h5_ h6_ h7_ h8_ h9_ h10_ h11_ h12_ h13_ h14_ h15_ h16_ h17_ h18_ h19_ h20_ h21_ h22_ h23_ h24_ h25_ h26_ h27_ h28_ h29_ h30_ h31_ h32_ h33_ h34_ h35_
             have HO382 := n0_
             have HO385 := n1_
             have HO388 := n2_
             have HO391 := n3_
             have HO394 := n4_
             have HO397 := n5_
             have HO_332000 := n6_
             have HO_332001 := n7_
             have HO_339000 := n8_
             have HO_339001 := n9_
             have HO_346000 := n10_
             have HO_346001 := n11_
             have HO_354000 := n12_
             have HO_354001 := n13_
             have BK308 := n14_
             have BK309 := n15_
             have BK331 := n16_
             have BK338 := n17_
             have BK345 := n18_
             have BK353 := n19_
             have BK399 := n20_
             have GW399 := n21_
             have GE399 := n22_
             have NB308_399 := n23_
             have NB399_308 := n24_
             have NB309_399 := n25_
             have NB399_309 := n26_
             have NB331_399 := n27_
             have NB399_331 := n28_
             have NB338_399 := n29_
             have NB399_338 := n30_
             have NB345_399 := n31_
             have NB399_345 := n32_
             have NB353_399 := n33_
             have NB399_353 := n34_
             have HB := n35_
             clear n0_ n1_ n2_ n3_ n4_ n5_ n6_ n7_ n8_ n9_ n10_ n11_ n12_ n13_ n14_ n15_ n16_ n17_ n18_ n19_ n20_ n21_ n22_ n23_ n24_ n25_ n26_ n27_ n28_ n29_ n30_ n31_ n32_ n33_ n34_ n35_
             have hHeld : w168.cell? ⟨gb308, 0, none⟩ = some (.slice A0_0 l0_0.length c0_0) ∧ w168.cell? ⟨gb308, 1, none⟩ = some (.slice A0_1 l0_1.length c0_1) ∧ w168.cell? ⟨gb309, 0, none⟩ = some (.slice A1_0 l1_0.length c1_0) ∧ w168.cell? ⟨gb309, 1, none⟩ = some (.slice A1_1 l1_1.length c1_1) := hS_
             obtain ⟨Ao169, co169, eo169⟩ := Kd.R_slice HO394.out
             (first | subst eo169 | (injection eo169 with f1_ f2_ f3_; have f4_ := f1_.symm; have f5_ := f3_.symm; clear f1_ f2_ f3_; subst f4_; subst f5_))
             obtain ⟨Ao171, co171, eo171⟩ := Kd.R_slice HO397.out
             (first | subst eo171 | (injection eo171 with f1_ f2_ f3_; have f4_ := f1_.symm; have f5_ := f3_.symm; clear f1_ f2_ f3_; subst f4_; subst f5_))
             refine norm_ (a' := ?_) ?_ ?_
             rotate_left
             ·
              simp only [putAll, Act.put, List.setIfInBounds_toArray, List.set_cons_zero, List.set_cons_succ]
              rfl
             refine one_ (i := 9) (N := none) #[true, true, true, true, true, true, true, true, true, true, false] rfl rfl (one_of HT_.out (by kernel_rfl)) (by decide) (fun K hK => ?_)
             have hs170 : w168.cell? ⟨gb399, 0, none⟩ = some (.slice none 0 0) := (blk_cell BK399.out 0).trans rfl
             have hfs170 := blk_frozen BK399.out 0
             have hns170_0 := NB308_399.out
             have hns170_1 := NB309_399.out
             have hns170_2 := NB331_399.out
             have hns170_3 := NB338_399.out
             have hns170_4 := NB345_399.out
             have hns170_5 := NB353_399.out
             have hms170_0 := NB399_308.out
             have hms170_1 := NB399_309.out
             have hms170_2 := NB399_331.out
             have hms170_3 := NB399_338.out
             have hms170_4 := NB399_345.out
             have hms170_5 := NB399_353.out
             have hs172 : w168.cell? ⟨gb399, 1, none⟩ = some (.slice none 0 0) := (blk_cell BK399.out 1).trans rfl
             have hfs172 := blk_frozen BK399.out 1
             have hns172_0 := NB308_399.out
             have hns172_1 := NB309_399.out
             have hns172_2 := NB331_399.out
             have hns172_3 := NB338_399.out
             have hns172_4 := NB345_399.out
             have hns172_5 := NB353_399.out
             have hms172_0 := NB399_308.out
             have hms172_1 := NB399_309.out
             have hms172_2 := NB399_331.out
             have hms172_3 := NB399_338.out
             have hms172_4 := NB399_345.out
             have hms172_5 := NB399_353.out
             refine skip_ (w1 := ?_) (by rfl) rfl ?_ ?_
             rotate_left
             ·
              go_simp
              rfl
             refine hK.out _ _ ⟨((cell_far (p := ⟨gb399, _, none⟩) NB308_399.out _).trans (((cell_far (p := ⟨gb399, _, none⟩) NB308_399.out _).trans (hHeld.1)))), ((cell_far (p := ⟨gb399, _, none⟩) NB308_399.out _).trans (((cell_far (p := ⟨gb399, _, none⟩) NB308_399.out _).trans (hHeld.2.1)))), ((cell_far (p := ⟨gb399, _, none⟩) NB309_399.out _).trans (((cell_far (p := ⟨gb399, _, none⟩) NB309_399.out _).trans (hHeld.2.2.1)))), ((cell_far (p := ⟨gb399, _, none⟩) NB309_399.out _).trans (((cell_far (p := ⟨gb399, _, none⟩) NB309_399.out _).trans (hHeld.2.2.2))))⟩ (fun hHeld => ?_)
             clear hK K
             refine pure_ (i := 10) (N := some 16) (v := ?_) (a' := ?_) #[true, true, true, true, true, true, true, true, true, true, true] rfl rfl (any_of HT_.out (by kernel_rfl)) (fun _ _ _ h => h) (Or.inl ⟨by rfl, ?_⟩) ?_ ?_
             rotate_left
             ·
              intro w'
              go_simp
              with_reducible rfl
             rotate_left
             ·
              simp only [Act.put, List.setIfInBounds_toArray, List.set_cons_zero, List.set_cons_succ, i64_w, i32_w]
              rfl
             refine done_ (done_of HT_.out (by kernel_rfl)) ?_
             go_upto_region 32 with (fail)
             go_cut [110] (fun v110 wc => ∃ (kq : Nat) (x110_148 : Bool), v110 = .bool x110_148 ∧ Aside0 (laws_FnExactRotate.j2 kq t376 x110_148 t377 t378 = some r) ∧ Aside0 (kq ≤ kj101) ∧ Aside0 (Kd.R (Kd.int .i64) 3 wc w.heap.size (fun k_ => some k_ ≠ ((.slice Ao45 t327.length co45) : Value).ownBlock ∧ some k_ ≠ ((.slice Ao51 t370.length co51) : Value).ownBlock ∧ some k_ ≠ ((.slice Ao56 t371.length co56) : Value).ownBlock ∧ some k_ ≠ ((.slice Ao61 t373.length co61) : Value).ownBlock ∧ some k_ ≠ ((.slice Ao67 t374.length co67) : Value).ownBlock ∧ some k_ ≠ ((.slice Ao71 t346.length co71) : Value).ownBlock ∧ some k_ ≠ ((.slice Ao78 t349.length co78) : Value).ownBlock ∧ some k_ ≠ ((.slice Ao169 t392.length co169) : Value).ownBlock ∧ some k_ ≠ ((.slice Ao171 t395.length co171) : Value).ownBlock) (.slice Ao43 t324.length co43) t324) ∧ Aside0 (Kd.R (Kd.int .i64) 3 wc w.heap.size (fun k_ => some k_ ≠ ((.slice Ao43 t324.length co43) : Value).ownBlock ∧ some k_ ≠ ((.slice Ao51 t370.length co51) : Value).ownBlock ∧ some k_ ≠ ((.slice Ao56 t371.length co56) : Value).ownBlock ∧ some k_ ≠ ((.slice Ao61 t373.length co61) : Value).ownBlock ∧ some k_ ≠ ((.slice Ao67 t374.length co67) : Value).ownBlock ∧ some k_ ≠ ((.slice Ao71 t346.length co71) : Value).ownBlock ∧ some k_ ≠ ((.slice Ao78 t349.length co78) : Value).ownBlock ∧ some k_ ≠ ((.slice Ao169 t392.length co169) : Value).ownBlock ∧ some k_ ≠ ((.slice Ao171 t395.length co171) : Value).ownBlock) (.slice Ao45 t327.length co45) t327) ∧ Aside0 (Kd.R (Kd.int .i64) 3 wc w.heap.size (fun k_ => some k_ ≠ ((.slice Ao43 t324.length co43) : Value).ownBlock ∧ some k_ ≠ ((.slice Ao45 t327.length co45) : Value).ownBlock ∧ some k_ ≠ ((.slice Ao56 t371.length co56) : Value).ownBlock ∧ some k_ ≠ ((.slice Ao61 t373.length co61) : Value).ownBlock ∧ some k_ ≠ ((.slice Ao67 t374.length co67) : Value).ownBlock ∧ some k_ ≠ ((.slice Ao71 t346.length co71) : Value).ownBlock ∧ some k_ ≠ ((.slice Ao78 t349.length co78) : Value).ownBlock ∧ some k_ ≠ ((.slice Ao169 t392.length co169) : Value).ownBlock ∧ some k_ ≠ ((.slice Ao171 t395.length co171) : Value).ownBlock) (.slice Ao51 t370.length co51) t370) ∧ Aside0 (Kd.R (Kd.int .i64) 3 wc w.heap.size (fun k_ => some k_ ≠ ((.slice Ao43 t324.length co43) : Value).ownBlock ∧ some k_ ≠ ((.slice Ao45 t327.length co45) : Value).ownBlock ∧ some k_ ≠ ((.slice Ao51 t370.length co51) : Value).ownBlock ∧ some k_ ≠ ((.slice Ao61 t373.length co61) : Value).ownBlock ∧ some k_ ≠ ((.slice Ao67 t374.length co67) : Value).ownBlock ∧ some k_ ≠ ((.slice Ao71 t346.length co71) : Value).ownBlock ∧ some k_ ≠ ((.slice Ao78 t349.length co78) : Value).ownBlock ∧ some k_ ≠ ((.slice Ao169 t392.length co169) : Value).ownBlock ∧ some k_ ≠ ((.slice Ao171 t395.length co171) : Value).ownBlock) (.slice Ao56 t371.length co56) t371) ∧ Aside0 (Kd.R (Kd.int .i64) 3 wc w.heap.size (fun k_ => some k_ ≠ ((.slice Ao43 t324.length co43) : Value).ownBlock ∧ some k_ ≠ ((.slice Ao45 t327.length co45) : Value).ownBlock ∧ some k_ ≠ ((.slice Ao51 t370.length co51) : Value).ownBlock ∧ some k_ ≠ ((.slice Ao56 t371.length co56) : Value).ownBlock ∧ some k_ ≠ ((.slice Ao67 t374.length co67) : Value).ownBlock ∧ some k_ ≠ ((.slice Ao71 t346.length co71) : Value).ownBlock ∧ some k_ ≠ ((.slice Ao78 t349.length co78) : Value).ownBlock ∧ some k_ ≠ ((.slice Ao169 t392.length co169) : Value).ownBlock ∧ some k_ ≠ ((.slice Ao171 t395.length co171) : Value).ownBlock) (.slice Ao61 t373.length co61) t373) ∧ Aside0 (Kd.R (Kd.int .i64) 3 wc w.heap.size (fun k_ => some k_ ≠ ((.slice Ao43 t324.length co43) : Value).ownBlock ∧ some k_ ≠ ((.slice Ao45 t327.length co45) : Value).ownBlock ∧ some k_ ≠ ((.slice Ao51 t370.length co51) : Value).ownBlock ∧ some k_ ≠ ((.slice Ao56 t371.length co56) : Value).ownBlock ∧ some k_ ≠ ((.slice Ao61 t373.length co61) : Value).ownBlock ∧ some k_ ≠ ((.slice Ao71 t346.length co71) : Value).ownBlock ∧ some k_ ≠ ((.slice Ao78 t349.length co78) : Value).ownBlock ∧ some k_ ≠ ((.slice Ao169 t392.length co169) : Value).ownBlock ∧ some k_ ≠ ((.slice Ao171 t395.length co171) : Value).ownBlock) (.slice Ao67 t374.length co67) t374) ∧ Aside0 (Kd.R (Kd.int .i64) 3 wc w.heap.size (fun k_ => some k_ ≠ ((.slice Ao43 t324.length co43) : Value).ownBlock ∧ some k_ ≠ ((.slice Ao45 t327.length co45) : Value).ownBlock ∧ some k_ ≠ ((.slice Ao51 t370.length co51) : Value).ownBlock ∧ some k_ ≠ ((.slice Ao56 t371.length co56) : Value).ownBlock ∧ some k_ ≠ ((.slice Ao61 t373.length co61) : Value).ownBlock ∧ some k_ ≠ ((.slice Ao67 t374.length co67) : Value).ownBlock ∧ some k_ ≠ ((.slice Ao78 t349.length co78) : Value).ownBlock ∧ some k_ ≠ ((.slice Ao169 t392.length co169) : Value).ownBlock ∧ some k_ ≠ ((.slice Ao171 t395.length co171) : Value).ownBlock) (.slice Ao71 t346.length co71) t377) ∧ Aside0 (Kd.R (Kd.int .i64) 3 wc w.heap.size (fun k_ => some k_ ≠ ((.slice Ao43 t324.length co43) : Value).ownBlock ∧ some k_ ≠ ((.slice Ao45 t327.length co45) : Value).ownBlock ∧ some k_ ≠ ((.slice Ao51 t370.length co51) : Value).ownBlock ∧ some k_ ≠ ((.slice Ao56 t371.length co56) : Value).ownBlock ∧ some k_ ≠ ((.slice Ao61 t373.length co61) : Value).ownBlock ∧ some k_ ≠ ((.slice Ao67 t374.length co67) : Value).ownBlock ∧ some k_ ≠ ((.slice Ao71 t346.length co71) : Value).ownBlock ∧ some k_ ≠ ((.slice Ao169 t392.length co169) : Value).ownBlock ∧ some k_ ≠ ((.slice Ao171 t395.length co171) : Value).ownBlock) (.slice Ao78 t349.length co78) t378) ∧ Aside0 (Kd.R (Kd.int .i64) 3 wc w.heap.size (fun k_ => some k_ ≠ ((.slice Ao43 t324.length co43) : Value).ownBlock ∧ some k_ ≠ ((.slice Ao45 t327.length co45) : Value).ownBlock ∧ some k_ ≠ ((.slice Ao51 t370.length co51) : Value).ownBlock ∧ some k_ ≠ ((.slice Ao56 t371.length co56) : Value).ownBlock ∧ some k_ ≠ ((.slice Ao61 t373.length co61) : Value).ownBlock ∧ some k_ ≠ ((.slice Ao67 t374.length co67) : Value).ownBlock ∧ some k_ ≠ ((.slice Ao71 t346.length co71) : Value).ownBlock ∧ some k_ ≠ ((.slice Ao78 t349.length co78) : Value).ownBlock ∧ some k_ ≠ ((.slice Ao171 t395.length co171) : Value).ownBlock) (.slice Ao169 t392.length co169) t392) ∧ Aside0 (Kd.R (Kd.int .i64) 3 wc w.heap.size (fun k_ => some k_ ≠ ((.slice Ao43 t324.length co43) : Value).ownBlock ∧ some k_ ≠ ((.slice Ao45 t327.length co45) : Value).ownBlock ∧ some k_ ≠ ((.slice Ao51 t370.length co51) : Value).ownBlock ∧ some k_ ≠ ((.slice Ao56 t371.length co56) : Value).ownBlock ∧ some k_ ≠ ((.slice Ao61 t373.length co61) : Value).ownBlock ∧ some k_ ≠ ((.slice Ao67 t374.length co67) : Value).ownBlock ∧ some k_ ≠ ((.slice Ao71 t346.length co71) : Value).ownBlock ∧ some k_ ≠ ((.slice Ao78 t349.length co78) : Value).ownBlock ∧ some k_ ≠ ((.slice Ao169 t392.length co169) : Value).ownBlock) (.slice Ao171 t395.length co171) t395) ∧ Aside0 (wc.heap[gb308]? = some (.cells #[(.slice A0_0 l0_0.length c0_0), (.slice A0_1 l0_1.length c0_1)] 24 (0, 0))) ∧ Aside0 (wc.heap[gb309]? = some (.cells #[(.slice A1_0 l1_0.length c1_0), (.slice A1_1 l1_1.length c1_1)] 24 (0, 0))) ∧ Aside0 (wc.heap[gb331]? = some (.cells #[(.slice Ao43 t324.length co43), (.slice Ao45 t327.length co45)] 26 (0, 0))) ∧ Aside0 (wc.heap[gb338]? = some (.cells #[(.slice Ao51 t370.length co51), (.slice Ao56 t371.length co56)] 26 (0, 0))) ∧ Aside0 (wc.heap[gb345]? = some (.cells #[(.slice Ao61 t373.length co61), (.slice Ao67 t374.length co67)] 26 (0, 0))) ∧ Aside0 (wc.heap[gb353]? = some (.cells #[(.slice Ao71 t346.length co71), (.slice Ao78 t349.length co78)] 26 (0, 0))) ∧ Aside0 (wc.heap[gb399]? = some (.cells #[(.slice Ao169 t392.length co169), (.slice Ao171 t395.length co171)] 26 (0, 0))) ∧ Aside0 (Below w.heap.size w wc))
             case first =>
              have H := HC149.out
              clear HC149
              replace H := Option.bind_eq_some_iff.mp H
              obtain ⟨t400, A1730, H⟩ := H
              replace H : (if t400 = true then (laws_FnExactRotate.j2 kj101 t376 (t398 != t330) t377 t378) else (laws_FnExactRotate.j2 kj101 t376 true t377 t378)) = some r := H
              have A173 := Aside0.mk A1730
              clear A1730
              by_cases c174 : t400 = true
              ·
               subst c174
               have H1 : (laws_FnExactRotate.j2 kj101 t376 (t398 != t330) t377 t378) = some r := by rw [if_pos rfl] at H; exact H
               clear H
               have H := H1
               clear H1
               have H' := Aside0.mk H
               clear H
               have hnb175 := NB399_308.out
               have hnc175 := NB308_399.out
               have hnb176 := NB399_309.out
               have hnc176 := NB309_399.out
               have hnb177 := NB399_331.out
               have hnc177 := NB331_399.out
               have hnb178 := NB399_338.out
               have hnc178 := NB338_399.out
               have hnb179 := NB399_345.out
               have hnc179 := NB345_399.out
               have hnb180 := NB399_353.out
               have hnc180 := NB353_399.out
               have hcz181_0 : w168.cell? ⟨gb399, 0, none⟩ = some (.slice none 0 0) := (blk_cell BK399.out 0).trans rfl
               have hcz181_1 : w168.cell? ⟨gb399, 1, none⟩ = some (.slice none 0 0) := (blk_cell BK399.out 1).trans rfl
               have hfz181_0 := blk_frozen BK399.out 0
               have hfz181_1 := blk_frozen BK399.out 1
               have hnb182 := NB331_308.out
               have hnc182 := NB308_331.out
               have hnb183 := NB331_309.out
               have hnc183 := NB309_331.out
               have hnb184 := NB331_338.out
               have hnc184 := NB338_331.out
               have hnb185 := NB331_345.out
               have hnc185 := NB345_331.out
               have hnb186 := NB331_353.out
               have hnc186 := NB353_331.out
               have hcz187_0 : w168.cell? ⟨gb331, 0, none⟩ = some (.slice Ao43 t324.length co43) := (blk_cell BK331.out 0).trans rfl
               have hcz187_1 : w168.cell? ⟨gb331, 1, none⟩ = some (.slice Ao45 t327.length co45) := (blk_cell BK331.out 1).trans rfl
               have hfz187_0 := blk_frozen BK331.out 0
               have hfz187_1 := blk_frozen BK331.out 1
               go_wp2_with (first | ((with_reducible refine gate_callee (f := 19) rfl ?_); refine goesL_ (some 104) rfl rfl Try.func19 (by kernel_rfl) rfl #[.agg #[.slice Ao169 t392.length co169, .slice Ao171 t395.length co171], .agg #[.slice Ao43 t324.length co43, .slice Ao45 t327.length co45]] rfl (by (try simp only [List.map_toArray, List.map_cons, List.map_nil]); first | done | rfl | (simp only [List.length_drop, List.length_take]; rfl)) ?_; (with_reducible refine (laws_eqArray.calls kj101 _ _ t392 _ _ t395 _ _ t324 _ _ t327 true _ ?side1 ?side2 ?side3 ?side4 ?side5 ?side6 ?side7 ?side8 A173.out).mono ?_); (case side1 => refine (Kd.R_reads' (e := 3) (base := w.heap.size) (ok := fun k_ => (some k_ ≠ (v381 : Value).ownBlock ∧ (some k_ ≠ (v384 : Value).ownBlock ∧ (some k_ ≠ (v387 : Value).ownBlock ∧ (some k_ ≠ (v390 : Value).ownBlock ∧ (some k_ ≠ (.slice Ao171 t395.length co171 : Value).ownBlock ∧ (some k_ ≠ (.slice Ao43 t324.length co43 : Value).ownBlock ∧ (some k_ ≠ (.slice Ao45 t327.length co45 : Value).ownBlock ∧ (some k_ ≠ (.slice Ao51 t370.length co51 : Value).ownBlock ∧ (some k_ ≠ (.slice Ao56 t371.length co56 : Value).ownBlock ∧ (some k_ ≠ (.slice Ao61 t373.length co61 : Value).ownBlock ∧ (some k_ ≠ (.slice Ao67 t374.length co67 : Value).ownBlock ∧ (some k_ ≠ (.slice Ao71 t346.length co71 : Value).ownBlock ∧ some k_ ≠ (.slice Ao78 t349.length co78 : Value).ownBlock))))))))))))) (n := t392.length) (c := co169) ?_).2.2; exact (by (with_reducible repeat (first | apply Kd.R_alloc | apply Kd.R_drewN | apply Kd.R_drew)); exact (far2 HO394.out BK399.out))); (case side2 => exact (Kd.R_reads' HO394.out).2.1); (case side3 => refine (Kd.R_reads' (e := 3) (base := w.heap.size) (ok := fun k_ => (some k_ ≠ (v381 : Value).ownBlock ∧ (some k_ ≠ (v384 : Value).ownBlock ∧ (some k_ ≠ (v387 : Value).ownBlock ∧ (some k_ ≠ (v390 : Value).ownBlock ∧ (some k_ ≠ (.slice Ao169 t392.length co169 : Value).ownBlock ∧ (some k_ ≠ (.slice Ao43 t324.length co43 : Value).ownBlock ∧ (some k_ ≠ (.slice Ao45 t327.length co45 : Value).ownBlock ∧ (some k_ ≠ (.slice Ao51 t370.length co51 : Value).ownBlock ∧ (some k_ ≠ (.slice Ao56 t371.length co56 : Value).ownBlock ∧ (some k_ ≠ (.slice Ao61 t373.length co61 : Value).ownBlock ∧ (some k_ ≠ (.slice Ao67 t374.length co67 : Value).ownBlock ∧ (some k_ ≠ (.slice Ao71 t346.length co71 : Value).ownBlock ∧ some k_ ≠ (.slice Ao78 t349.length co78 : Value).ownBlock))))))))))))) (n := t395.length) (c := co171) ?_).2.2; exact (by (with_reducible repeat (first | apply Kd.R_alloc | apply Kd.R_drewN | apply Kd.R_drew)); exact (far2 HO397.out BK399.out))); (case side4 => exact (Kd.R_reads' HO397.out).2.1); (case side5 => refine (Kd.R_reads' (e := 3) (base := w.heap.size) (ok := fun k_ => (some k_ ≠ (v381 : Value).ownBlock ∧ (some k_ ≠ (v384 : Value).ownBlock ∧ (some k_ ≠ (v387 : Value).ownBlock ∧ (some k_ ≠ (v390 : Value).ownBlock ∧ (some k_ ≠ (.slice Ao169 t392.length co169 : Value).ownBlock ∧ (some k_ ≠ (.slice Ao171 t395.length co171 : Value).ownBlock ∧ (some k_ ≠ (.slice Ao45 t327.length co45 : Value).ownBlock ∧ (some k_ ≠ (.slice Ao51 t370.length co51 : Value).ownBlock ∧ (some k_ ≠ (.slice Ao56 t371.length co56 : Value).ownBlock ∧ (some k_ ≠ (.slice Ao61 t373.length co61 : Value).ownBlock ∧ (some k_ ≠ (.slice Ao67 t374.length co67 : Value).ownBlock ∧ (some k_ ≠ (.slice Ao71 t346.length co71 : Value).ownBlock ∧ some k_ ≠ (.slice Ao78 t349.length co78 : Value).ownBlock))))))))))))) (n := t324.length) (c := co43) ?_).2.2; exact (by (with_reducible repeat (first | apply Kd.R_alloc | apply Kd.R_drewN | apply Kd.R_drew)); exact (far2 HO_332000.out BK399.out))); (case side6 => exact (Kd.R_reads' HO_332000.out).2.1); (case side7 => refine (Kd.R_reads' (e := 3) (base := w.heap.size) (ok := fun k_ => (some k_ ≠ (v381 : Value).ownBlock ∧ (some k_ ≠ (v384 : Value).ownBlock ∧ (some k_ ≠ (v387 : Value).ownBlock ∧ (some k_ ≠ (v390 : Value).ownBlock ∧ (some k_ ≠ (.slice Ao169 t392.length co169 : Value).ownBlock ∧ (some k_ ≠ (.slice Ao171 t395.length co171 : Value).ownBlock ∧ (some k_ ≠ (.slice Ao43 t324.length co43 : Value).ownBlock ∧ (some k_ ≠ (.slice Ao51 t370.length co51 : Value).ownBlock ∧ (some k_ ≠ (.slice Ao56 t371.length co56 : Value).ownBlock ∧ (some k_ ≠ (.slice Ao61 t373.length co61 : Value).ownBlock ∧ (some k_ ≠ (.slice Ao67 t374.length co67 : Value).ownBlock ∧ (some k_ ≠ (.slice Ao71 t346.length co71 : Value).ownBlock ∧ some k_ ≠ (.slice Ao78 t349.length co78 : Value).ownBlock))))))))))))) (n := t327.length) (c := co45) ?_).2.2; exact (by (with_reducible repeat (first | apply Kd.R_alloc | apply Kd.R_drewN | apply Kd.R_drew)); exact (far2 HO_332001.out BK399.out))); (case side8 => exact (Kd.R_reads' HO_332001.out).2.1); rintro e w188 ⟨rfl, hb⟩; refine ⟨_, rfl, ?_⟩; replace HO_332000 := Aside0.mk (Kd.R_below (by (with_reducible repeat (first | apply Kd.R_alloc | apply Kd.R_drewN | apply Kd.R_drew)); exact (far2 HO_332000.out BK399.out)) hb); replace HO_332001 := Aside0.mk (Kd.R_below (by (with_reducible repeat (first | apply Kd.R_alloc | apply Kd.R_drewN | apply Kd.R_drew)); exact (far2 HO_332001.out BK399.out)) hb); replace HO_339000 := Aside0.mk (Kd.R_below (by (with_reducible repeat (first | apply Kd.R_alloc | apply Kd.R_drewN | apply Kd.R_drew)); exact (far2 HO_339000.out BK399.out)) hb); replace HO_339001 := Aside0.mk (Kd.R_below (by (with_reducible repeat (first | apply Kd.R_alloc | apply Kd.R_drewN | apply Kd.R_drew)); exact (far2 HO_339001.out BK399.out)) hb); replace HO_346000 := Aside0.mk (Kd.R_below (by (with_reducible repeat (first | apply Kd.R_alloc | apply Kd.R_drewN | apply Kd.R_drew)); exact (far2 HO_346000.out BK399.out)) hb); replace HO_346001 := Aside0.mk (Kd.R_below (by (with_reducible repeat (first | apply Kd.R_alloc | apply Kd.R_drewN | apply Kd.R_drew)); exact (far2 HO_346001.out BK399.out)) hb); replace HO_354000 := Aside0.mk (Kd.R_below (by (with_reducible repeat (first | apply Kd.R_alloc | apply Kd.R_drewN | apply Kd.R_drew)); exact (far2 HO_354000.out BK399.out)) hb); replace HO_354001 := Aside0.mk (Kd.R_below (by (with_reducible repeat (first | apply Kd.R_alloc | apply Kd.R_drewN | apply Kd.R_drew)); exact (far2 HO_354001.out BK399.out)) hb); replace HO382 := Aside0.mk (Kd.R_below (by (with_reducible repeat (first | apply Kd.R_alloc | apply Kd.R_drewN | apply Kd.R_drew)); exact (far2 HO382.out BK399.out)) hb); replace HO385 := Aside0.mk (Kd.R_below (by (with_reducible repeat (first | apply Kd.R_alloc | apply Kd.R_drewN | apply Kd.R_drew)); exact (far2 HO385.out BK399.out)) hb); replace HO388 := Aside0.mk (Kd.R_below (by (with_reducible repeat (first | apply Kd.R_alloc | apply Kd.R_drewN | apply Kd.R_drew)); exact (far2 HO388.out BK399.out)) hb); replace HO391 := Aside0.mk (Kd.R_below (by (with_reducible repeat (first | apply Kd.R_alloc | apply Kd.R_drewN | apply Kd.R_drew)); exact (far2 HO391.out BK399.out)) hb); replace HO394 := Aside0.mk (Kd.R_below (by (with_reducible repeat (first | apply Kd.R_alloc | apply Kd.R_drewN | apply Kd.R_drew)); exact (far2 HO394.out BK399.out)) hb); replace HO397 := Aside0.mk (Kd.R_below (by (with_reducible repeat (first | apply Kd.R_alloc | apply Kd.R_drewN | apply Kd.R_drew)); exact (far2 HO397.out BK399.out)) hb); replace BK308 := Aside0.mk (blk_below (g := gb308) (o := .cells #[.slice A0_0 l0_0.length c0_0, .slice A0_1 l0_1.length c0_1] 24 (0, 0)) (by (with_reducible repeat (first | refine blk_drewN ?_ _ | refine blk_drew ?_ | refine blk_alloc ?_ _)); refine blk_far ?_ NB308_399.out _; (with_reducible repeat (first | refine blk_drewN ?_ _ | refine blk_drew ?_ | refine blk_alloc ?_ _)); refine blk_far ?_ NB308_399.out _; (with_reducible repeat (first | refine blk_drewN ?_ _ | refine blk_drew ?_ | refine blk_alloc ?_ _)); exact BK308.out) hb); replace BK309 := Aside0.mk (blk_below (g := gb309) (o := .cells #[.slice A1_0 l1_0.length c1_0, .slice A1_1 l1_1.length c1_1] 24 (0, 0)) (by (with_reducible repeat (first | refine blk_drewN ?_ _ | refine blk_drew ?_ | refine blk_alloc ?_ _)); refine blk_far ?_ NB309_399.out _; (with_reducible repeat (first | refine blk_drewN ?_ _ | refine blk_drew ?_ | refine blk_alloc ?_ _)); refine blk_far ?_ NB309_399.out _; (with_reducible repeat (first | refine blk_drewN ?_ _ | refine blk_drew ?_ | refine blk_alloc ?_ _)); exact BK309.out) hb); replace BK331 := Aside0.mk (blk_below (g := gb331) (o := .cells #[.slice Ao43 t324.length co43, .slice Ao45 t327.length co45] 26 (0, 0)) (by (with_reducible repeat (first | refine blk_drewN ?_ _ | refine blk_drew ?_ | refine blk_alloc ?_ _)); refine blk_far ?_ NB331_399.out _; (with_reducible repeat (first | refine blk_drewN ?_ _ | refine blk_drew ?_ | refine blk_alloc ?_ _)); refine blk_far ?_ NB331_399.out _; (with_reducible repeat (first | refine blk_drewN ?_ _ | refine blk_drew ?_ | refine blk_alloc ?_ _)); exact BK331.out) hb); replace BK338 := Aside0.mk (blk_below (g := gb338) (o := .cells #[.slice Ao51 t370.length co51, .slice Ao56 t371.length co56] 26 (0, 0)) (by (with_reducible repeat (first | refine blk_drewN ?_ _ | refine blk_drew ?_ | refine blk_alloc ?_ _)); refine blk_far ?_ NB338_399.out _; (with_reducible repeat (first | refine blk_drewN ?_ _ | refine blk_drew ?_ | refine blk_alloc ?_ _)); refine blk_far ?_ NB338_399.out _; (with_reducible repeat (first | refine blk_drewN ?_ _ | refine blk_drew ?_ | refine blk_alloc ?_ _)); exact BK338.out) hb); replace BK345 := Aside0.mk (blk_below (g := gb345) (o := .cells #[.slice Ao61 t373.length co61, .slice Ao67 t374.length co67] 26 (0, 0)) (by (with_reducible repeat (first | refine blk_drewN ?_ _ | refine blk_drew ?_ | refine blk_alloc ?_ _)); refine blk_far ?_ NB345_399.out _; (with_reducible repeat (first | refine blk_drewN ?_ _ | refine blk_drew ?_ | refine blk_alloc ?_ _)); refine blk_far ?_ NB345_399.out _; (with_reducible repeat (first | refine blk_drewN ?_ _ | refine blk_drew ?_ | refine blk_alloc ?_ _)); exact BK345.out) hb); replace BK353 := Aside0.mk (blk_below (g := gb353) (o := .cells #[.slice Ao71 t346.length co71, .slice Ao78 t349.length co78] 26 (0, 0)) (by (with_reducible repeat (first | refine blk_drewN ?_ _ | refine blk_drew ?_ | refine blk_alloc ?_ _)); refine blk_far ?_ NB353_399.out _; (with_reducible repeat (first | refine blk_drewN ?_ _ | refine blk_drew ?_ | refine blk_alloc ?_ _)); refine blk_far ?_ NB353_399.out _; (with_reducible repeat (first | refine blk_drewN ?_ _ | refine blk_drew ?_ | refine blk_alloc ?_ _)); exact BK353.out) hb); replace BK399 := Aside0.mk (blk_below (g := gb399) (o := .cells #[.slice Ao169 t392.length co169, .slice Ao171 t395.length co171] 26 (0, 0)) (by (with_reducible repeat (first | refine blk_drewN ?_ _ | refine blk_drew ?_ | refine blk_alloc ?_ _)); refine blk_put (cs := #[.slice Ao169 t392.length co169, .slice none 0 0]) ?_ 1 _ rfl; (with_reducible repeat (first | refine blk_drewN ?_ _ | refine blk_drew ?_ | refine blk_alloc ?_ _)); refine blk_put (cs := #[.slice none 0 0, .slice none 0 0]) ?_ 0 _ rfl; (with_reducible repeat (first | refine blk_drewN ?_ _ | refine blk_drew ?_ | refine blk_alloc ?_ _)); exact BK399.out) hb); replace HB := Aside0.mk (below_step (by repeat (first | (with_reducible first | exact HB.out | apply below_alloc | apply pw_below_drewN | apply below_drew1 | refine below_set ?_ GE308.out | refine below_set ?_ GE309.out | refine below_set ?_ GE331.out | refine below_set ?_ GE338.out | refine below_set ?_ GE345.out | refine below_set ?_ GE353.out | refine below_set ?_ GE399.out) | exact HB.out)) hb); (try clear hb); (try clear hb2); (try clear hk); (try clear hi)))
               go_meet
               case rel => exact ⟨_, ((t398 != t330)), (by first | rfl | (simp; done) | (simp [*]; done)), H', ⟨by have := HJ24.out; have := HJ101.out; first | omega | exact Nat.le_refl _⟩, ⟨by (try simp only [hl339000_101]); (try simp only [hl339001_101]); (try simp only [hl346000_101]); (try simp only [hl346001_101]); (with_reducible repeat (first | apply Kd.R_alloc | apply Kd.R_drewN | apply Kd.R_drew)); exact Kd.R_mono HO_332000.out (fun _ hk => ⟨hk.2.2.2.2.2.2.1, ⟨hk.2.2.2.2.2.2.2.1, ⟨hk.2.2.2.2.2.2.2.2.1, ⟨hk.2.2.2.2.2.2.2.2.2.1, ⟨hk.2.2.2.2.2.2.2.2.2.2.1, ⟨hk.2.2.2.2.2.2.2.2.2.2.2.1, ⟨hk.2.2.2.2.2.2.2.2.2.2.2.2, ⟨hk.2.2.2.2.1, hk.2.2.2.2.2.1⟩⟩⟩⟩⟩⟩⟩⟩)⟩, ⟨by (try simp only [hl339000_101]); (try simp only [hl339001_101]); (try simp only [hl346000_101]); (try simp only [hl346001_101]); (with_reducible repeat (first | apply Kd.R_alloc | apply Kd.R_drewN | apply Kd.R_drew)); exact Kd.R_mono HO_332001.out (fun _ hk => ⟨hk.2.2.2.2.2.2.1, ⟨hk.2.2.2.2.2.2.2.1, ⟨hk.2.2.2.2.2.2.2.2.1, ⟨hk.2.2.2.2.2.2.2.2.2.1, ⟨hk.2.2.2.2.2.2.2.2.2.2.1, ⟨hk.2.2.2.2.2.2.2.2.2.2.2.1, ⟨hk.2.2.2.2.2.2.2.2.2.2.2.2, ⟨hk.2.2.2.2.1, hk.2.2.2.2.2.1⟩⟩⟩⟩⟩⟩⟩⟩)⟩, ⟨by (try simp only [hl339000_101]); (try simp only [hl339001_101]); (try simp only [hl346000_101]); (try simp only [hl346001_101]); (with_reducible repeat (first | apply Kd.R_alloc | apply Kd.R_drewN | apply Kd.R_drew)); exact Kd.R_mono HO_339000.out (fun _ hk => ⟨hk.2.2.2.2.2.2.1, ⟨hk.2.2.2.2.2.2.2.1, ⟨hk.2.2.2.2.2.2.2.2.1, ⟨hk.2.2.2.2.2.2.2.2.2.1, ⟨hk.2.2.2.2.2.2.2.2.2.2.1, ⟨hk.2.2.2.2.2.2.2.2.2.2.2.1, ⟨hk.2.2.2.2.2.2.2.2.2.2.2.2, ⟨hk.2.2.2.2.1, hk.2.2.2.2.2.1⟩⟩⟩⟩⟩⟩⟩⟩)⟩, ⟨by (try simp only [hl339000_101]); (try simp only [hl339001_101]); (try simp only [hl346000_101]); (try simp only [hl346001_101]); (with_reducible repeat (first | apply Kd.R_alloc | apply Kd.R_drewN | apply Kd.R_drew)); exact Kd.R_mono HO_339001.out (fun _ hk => ⟨hk.2.2.2.2.2.2.1, ⟨hk.2.2.2.2.2.2.2.1, ⟨hk.2.2.2.2.2.2.2.2.1, ⟨hk.2.2.2.2.2.2.2.2.2.1, ⟨hk.2.2.2.2.2.2.2.2.2.2.1, ⟨hk.2.2.2.2.2.2.2.2.2.2.2.1, ⟨hk.2.2.2.2.2.2.2.2.2.2.2.2, ⟨hk.2.2.2.2.1, hk.2.2.2.2.2.1⟩⟩⟩⟩⟩⟩⟩⟩)⟩, ⟨by (try simp only [hl339000_101]); (try simp only [hl339001_101]); (try simp only [hl346000_101]); (try simp only [hl346001_101]); (with_reducible repeat (first | apply Kd.R_alloc | apply Kd.R_drewN | apply Kd.R_drew)); exact Kd.R_mono HO_346000.out (fun _ hk => ⟨hk.2.2.2.2.2.2.1, ⟨hk.2.2.2.2.2.2.2.1, ⟨hk.2.2.2.2.2.2.2.2.1, ⟨hk.2.2.2.2.2.2.2.2.2.1, ⟨hk.2.2.2.2.2.2.2.2.2.2.1, ⟨hk.2.2.2.2.2.2.2.2.2.2.2.1, ⟨hk.2.2.2.2.2.2.2.2.2.2.2.2, ⟨hk.2.2.2.2.1, hk.2.2.2.2.2.1⟩⟩⟩⟩⟩⟩⟩⟩)⟩, ⟨by (try simp only [hl339000_101]); (try simp only [hl339001_101]); (try simp only [hl346000_101]); (try simp only [hl346001_101]); (with_reducible repeat (first | apply Kd.R_alloc | apply Kd.R_drewN | apply Kd.R_drew)); exact Kd.R_mono HO_346001.out (fun _ hk => ⟨hk.2.2.2.2.2.2.1, ⟨hk.2.2.2.2.2.2.2.1, ⟨hk.2.2.2.2.2.2.2.2.1, ⟨hk.2.2.2.2.2.2.2.2.2.1, ⟨hk.2.2.2.2.2.2.2.2.2.2.1, ⟨hk.2.2.2.2.2.2.2.2.2.2.2.1, ⟨hk.2.2.2.2.2.2.2.2.2.2.2.2, ⟨hk.2.2.2.2.1, hk.2.2.2.2.2.1⟩⟩⟩⟩⟩⟩⟩⟩)⟩, ⟨by (try simp only [hl339000_101]); (try simp only [hl339001_101]); (try simp only [hl346000_101]); (try simp only [hl346001_101]); (with_reducible repeat (first | apply Kd.R_alloc | apply Kd.R_drewN | apply Kd.R_drew)); exact Kd.R_mono HO_354000.out (fun _ hk => ⟨hk.2.2.2.2.2.2.1, ⟨hk.2.2.2.2.2.2.2.1, ⟨hk.2.2.2.2.2.2.2.2.1, ⟨hk.2.2.2.2.2.2.2.2.2.1, ⟨hk.2.2.2.2.2.2.2.2.2.2.1, ⟨hk.2.2.2.2.2.2.2.2.2.2.2.1, ⟨hk.2.2.2.2.2.2.2.2.2.2.2.2, ⟨hk.2.2.2.2.1, hk.2.2.2.2.2.1⟩⟩⟩⟩⟩⟩⟩⟩)⟩, ⟨by (try simp only [hl339000_101]); (try simp only [hl339001_101]); (try simp only [hl346000_101]); (try simp only [hl346001_101]); (with_reducible repeat (first | apply Kd.R_alloc | apply Kd.R_drewN | apply Kd.R_drew)); exact Kd.R_mono HO_354001.out (fun _ hk => ⟨hk.2.2.2.2.2.2.1, ⟨hk.2.2.2.2.2.2.2.1, ⟨hk.2.2.2.2.2.2.2.2.1, ⟨hk.2.2.2.2.2.2.2.2.2.1, ⟨hk.2.2.2.2.2.2.2.2.2.2.1, ⟨hk.2.2.2.2.2.2.2.2.2.2.2.1, ⟨hk.2.2.2.2.2.2.2.2.2.2.2.2, ⟨hk.2.2.2.2.1, hk.2.2.2.2.2.1⟩⟩⟩⟩⟩⟩⟩⟩)⟩, ⟨by (try simp only [hl339000_101]); (try simp only [hl339001_101]); (try simp only [hl346000_101]); (try simp only [hl346001_101]); (with_reducible repeat (first | apply Kd.R_alloc | apply Kd.R_drewN | apply Kd.R_drew)); exact Kd.R_mono HO394.out (fun _ hk => ⟨hk.2.2.2.2.2.1, ⟨hk.2.2.2.2.2.2.1, ⟨hk.2.2.2.2.2.2.2.1, ⟨hk.2.2.2.2.2.2.2.2.1, ⟨hk.2.2.2.2.2.2.2.2.2.1, ⟨hk.2.2.2.2.2.2.2.2.2.2.1, ⟨hk.2.2.2.2.2.2.2.2.2.2.2.1, ⟨hk.2.2.2.2.2.2.2.2.2.2.2.2, hk.2.2.2.2.1⟩⟩⟩⟩⟩⟩⟩⟩)⟩, ⟨by (try simp only [hl339000_101]); (try simp only [hl339001_101]); (try simp only [hl346000_101]); (try simp only [hl346001_101]); (with_reducible repeat (first | apply Kd.R_alloc | apply Kd.R_drewN | apply Kd.R_drew)); exact Kd.R_mono HO397.out (fun _ hk => ⟨hk.2.2.2.2.2.1, ⟨hk.2.2.2.2.2.2.1, ⟨hk.2.2.2.2.2.2.2.1, ⟨hk.2.2.2.2.2.2.2.2.1, ⟨hk.2.2.2.2.2.2.2.2.2.1, ⟨hk.2.2.2.2.2.2.2.2.2.2.1, ⟨hk.2.2.2.2.2.2.2.2.2.2.2.1, ⟨hk.2.2.2.2.2.2.2.2.2.2.2.2, hk.2.2.2.2.1⟩⟩⟩⟩⟩⟩⟩⟩)⟩, ⟨by (try simp only [hl339000_101]); (try simp only [hl339001_101]); (try simp only [hl346000_101]); (try simp only [hl346001_101]); (with_reducible repeat (first | refine blk_drewN ?_ _ | refine blk_drew ?_ | refine blk_alloc ?_ _)); exact BK308.out⟩, ⟨by (try simp only [hl339000_101]); (try simp only [hl339001_101]); (try simp only [hl346000_101]); (try simp only [hl346001_101]); (with_reducible repeat (first | refine blk_drewN ?_ _ | refine blk_drew ?_ | refine blk_alloc ?_ _)); exact BK309.out⟩, ⟨by (try simp only [hl339000_101]); (try simp only [hl339001_101]); (try simp only [hl346000_101]); (try simp only [hl346001_101]); (with_reducible repeat (first | refine blk_drewN ?_ _ | refine blk_drew ?_ | refine blk_alloc ?_ _)); exact BK331.out⟩, ⟨by (try simp only [hl339000_101]); (try simp only [hl339001_101]); (try simp only [hl346000_101]); (try simp only [hl346001_101]); (with_reducible repeat (first | refine blk_drewN ?_ _ | refine blk_drew ?_ | refine blk_alloc ?_ _)); exact BK338.out⟩, ⟨by (try simp only [hl339000_101]); (try simp only [hl339001_101]); (try simp only [hl346000_101]); (try simp only [hl346001_101]); (with_reducible repeat (first | refine blk_drewN ?_ _ | refine blk_drew ?_ | refine blk_alloc ?_ _)); exact BK345.out⟩, ⟨by (try simp only [hl339000_101]); (try simp only [hl339001_101]); (try simp only [hl346000_101]); (try simp only [hl346001_101]); (with_reducible repeat (first | refine blk_drewN ?_ _ | refine blk_drew ?_ | refine blk_alloc ?_ _)); exact BK353.out⟩, ⟨by (try simp only [hl339000_101]); (try simp only [hl339001_101]); (try simp only [hl346000_101]); (try simp only [hl346001_101]); (with_reducible repeat (first | refine blk_drewN ?_ _ | refine blk_drew ?_ | refine blk_alloc ?_ _)); exact BK399.out⟩, ⟨by repeat (first | (with_reducible first | exact HB.out | apply below_alloc | apply pw_below_drewN | apply below_drew1 | refine below_set ?_ GE308.out | refine below_set ?_ GE309.out | refine below_set ?_ GE331.out | refine below_set ?_ GE338.out | refine below_set ?_ GE345.out | refine below_set ?_ GE353.out | refine below_set ?_ GE399.out) | exact HB.out)⟩⟩
              ·
               replace c174 := Bool.eq_false_iff.mpr c174
               subst c174
               have H1 : (laws_FnExactRotate.j2 kj101 t376 true t377 t378) = some r := by rw [if_neg (show ¬ (false = true) by decide)] at H; exact H
               clear H
               have H := H1
               clear H1
               have hz_ : ∀ kz, laws_FnExactRotate.j2 kz t376 true t377 t378 = some r → r = false := by intro kz hz; cases kz with | zero => exact absurd hz (by simp [laws_FnExactRotate.j2]) | succ kz => simp only [laws_FnExactRotate.j2] at hz; first | (rw [if_pos rfl] at hz; exact (Option.some.inj hz).symm) | (simp at hz; exact hz.symm) | (simp at hz; exact hz)
               exact absurd (HT.out.symm.trans (hz_ _ H)) (by decide)
             case rest =>
              clear HC149
              try clear c1
              try clear p2
              try clear c4
              try clear c17
              try clear c18
              try clear c19
              try clear c40
              try clear c174
              try clear c175
              try clear c176
              try clear c177
              try clear c178
              try clear c179
              try clear c180
              try clear c182
              try clear c183
              try clear c184
              try clear c185
              try clear c186
              try clear hcz181_0
              try clear hcz181_1
              try clear hcz187_0
              try clear hcz187_1
              try clear hfz181_0
              try clear hfz181_1
              try clear hfz187_0
              try clear hfz187_1
              obtain ⟨kq, x110_148, rfl, HA, HJ148, HO_332000, HO_332001, HO_339000, HO_339001, HO_346000, HO_346001, HO_354000, HO_354001, HO_400000, HO_400001, BK308, BK309, BK331, BK338, BK345, BK353, BK399, HB⟩ := hcut
              have hl354000_148 := (Kd.R_reads' HO_354000.out).1
              rw [hl354000_148] at HO_354000
              (try simp only [hl354000_148])
              (try simp only [hl354000_148] at BK308)
              (try simp only [hl354000_148] at BK309)
              (try simp only [hl354000_148] at BK331)
              (try simp only [hl354000_148] at BK338)
              (try simp only [hl354000_148] at BK345)
              (try simp only [hl354000_148] at BK353)
              (try simp only [hl354000_148] at BK399)
              (try simp only [hl354000_148] at HO_332000)
              (try simp only [hl354000_148] at HO_332001)
              (try simp only [hl354000_148] at HO_339000)
              (try simp only [hl354000_148] at HO_339001)
              (try simp only [hl354000_148] at HO_346000)
              (try simp only [hl354000_148] at HO_346001)
              (try simp only [hl354000_148] at HO_354001)
              (try simp only [hl354000_148] at HO_400000)
              (try simp only [hl354000_148] at HO_400001)
              have hl354001_148 := (Kd.R_reads' HO_354001.out).1
              rw [hl354001_148] at HO_354001
              (try simp only [hl354001_148])
              (try simp only [hl354001_148] at BK308)
              (try simp only [hl354001_148] at BK309)
              (try simp only [hl354001_148] at BK331)
              (try simp only [hl354001_148] at BK338)
              (try simp only [hl354001_148] at BK345)
              (try simp only [hl354001_148] at BK353)
              (try simp only [hl354001_148] at BK399)
              (try simp only [hl354001_148] at HO_332000)
              (try simp only [hl354001_148] at HO_332001)
              (try simp only [hl354001_148] at HO_339000)
              (try simp only [hl354001_148] at HO_339001)
              (try simp only [hl354001_148] at HO_346000)
              (try simp only [hl354001_148] at HO_346001)
              (try simp only [hl354001_148] at HO_354000)
              (try simp only [hl354001_148] at HO_400000)
              (try simp only [hl354001_148] at HO_400001)
              cases kq with
              | zero => exact absurd HA.out (by simp [laws_FnExactRotate.j2])
              | succ kj148 =>
               have H := HA.out
               clear HA
               simp only [laws_FnExactRotate.j2] at H
               by_cases c189 : x110_148 = true
               ·
                subst c189
                have H1 : (some false) = some r := by rw [if_pos rfl] at H; exact H
                clear H
                have H := H1
                clear H1
                obtain rfl := Option.some.inj H
                exact absurd HT.out (by decide)
               ·
                replace c189 := Bool.eq_false_iff.mpr c189
                subst c189
                have H1 : ((laws_heldArray.f kj148 t377 t378 1).bind fun t401 => (if t401 < 0 then (some false) else (if t401 = t376 then (some true) else (some false)))) = some r := by rw [if_neg (show ¬ (false = true) by decide)] at H; exact H
                clear H
                have H := H1
                clear H1
                replace H := Option.bind_eq_some_iff.mp H
                obtain ⟨t401, A1900, H⟩ := H
                replace H : (if t401 < 0 then (some false) else (if t401 = t376 then (some true) else (some false))) = some r := H
                have A190 := Aside0.mk A1900
                clear A1900
                by_cases c191 : t401 < 0
                ·
                 rw [if_pos c191] at H
                 have c191b0 : decide (t401 < 0) = true := decide_eq_true c191
                 clear c191
                 obtain rfl := Option.some.inj H
                 exact absurd HT.out (by decide)
                ·
                 rw [if_neg c191] at H
                 have c191b0 : decide (t401 < 0) = false := decide_eq_false c191
                 clear c191
                 by_cases c192 : t401 = t376
                 ·
                  rw [if_pos c192] at H
                  have c192b0 : (t401 == t376) = true := beq_iff_eq.mpr c192
                  have c192b1 : (t401 != t376) = false := bne_eq_false_iff_eq.mpr c192
                  clear c192
                  obtain rfl := Option.some.inj H
                  have hnb193 := NB353_308.out
                  have hnc193 := NB308_353.out
                  have hnb194 := NB353_309.out
                  have hnc194 := NB309_353.out
                  have hnb195 := NB353_331.out
                  have hnc195 := NB331_353.out
                  have hnb196 := NB353_338.out
                  have hnc196 := NB338_353.out
                  have hnb197 := NB353_345.out
                  have hnc197 := NB345_353.out
                  have hnb198 := NB353_399.out
                  have hnc198 := NB399_353.out
                  have hcz199_0 : wc.cell? ⟨gb353, 0, none⟩ = some (.slice Ao71 t377.length co71) := (blk_cell BK353.out 0).trans rfl
                  have hcz199_1 : wc.cell? ⟨gb353, 1, none⟩ = some (.slice Ao78 t378.length co78) := (blk_cell BK353.out 1).trans rfl
                  have hfz199_0 := blk_frozen BK353.out 0
                  have hfz199_1 := blk_frozen BK353.out 1
                  go_wp2_with (first | ((with_reducible refine gate_callee (f := 21) rfl ?_); refine goesL_ (some 113) rfl rfl Try.func21 (by kernel_rfl) rfl #[.agg #[.slice Ao71 t377.length co71, .slice Ao78 t378.length co78], .int .i64 1] rfl (by (try simp only [List.map_toArray, List.map_cons, List.map_nil]); first | done | rfl | (simp only [List.length_drop, List.length_take]; rfl)) ?_; (with_reducible refine (laws_heldArray.calls kj148 _ _ t377 _ _ t378 1 t401 _ ?side1 ?side2 ?side3 ?side4 A190.out).mono ?_); (case side1 => exact cU (Kd.R_reads' HO_354000.out).2.2); (case side2 => exact (Kd.R_reads' HO_354000.out).2.1); (case side3 => exact cU (Kd.R_reads' HO_354001.out).2.2); (case side4 => exact (Kd.R_reads' HO_354001.out).2.1); rintro e w200 ⟨rfl, hb⟩; refine ⟨_, rfl, ?_⟩; replace HO_332000 := Aside0.mk (Kd.R_below (RU HO_332000.out) hb); replace HO_332001 := Aside0.mk (Kd.R_below (RU HO_332001.out) hb); replace HO_339000 := Aside0.mk (Kd.R_below (RU HO_339000.out) hb); replace HO_339001 := Aside0.mk (Kd.R_below (RU HO_339001.out) hb); replace HO_346000 := Aside0.mk (Kd.R_below (RU HO_346000.out) hb); replace HO_346001 := Aside0.mk (Kd.R_below (RU HO_346001.out) hb); replace HO_354000 := Aside0.mk (Kd.R_below (RU HO_354000.out) hb); replace HO_354001 := Aside0.mk (Kd.R_below (RU HO_354001.out) hb); replace HO_400000 := Aside0.mk (Kd.R_below (RU HO_400000.out) hb); replace HO_400001 := Aside0.mk (Kd.R_below (RU HO_400001.out) hb); replace BK308 := Aside0.mk (blk_below (g := gb308) (o := .cells #[.slice A0_0 l0_0.length c0_0, .slice A0_1 l0_1.length c0_1] 24 (0, 0)) (kU BK308.out) hb); replace BK309 := Aside0.mk (blk_below (g := gb309) (o := .cells #[.slice A1_0 l1_0.length c1_0, .slice A1_1 l1_1.length c1_1] 24 (0, 0)) (kU BK309.out) hb); replace BK331 := Aside0.mk (blk_below (g := gb331) (o := .cells #[.slice Ao43 t324.length co43, .slice Ao45 t327.length co45] 26 (0, 0)) (kU BK331.out) hb); replace BK338 := Aside0.mk (blk_below (g := gb338) (o := .cells #[.slice Ao51 t370.length co51, .slice Ao56 t371.length co56] 26 (0, 0)) (kU BK338.out) hb); replace BK345 := Aside0.mk (blk_below (g := gb345) (o := .cells #[.slice Ao61 t373.length co61, .slice Ao67 t374.length co67] 26 (0, 0)) (kU BK345.out) hb); replace BK353 := Aside0.mk (blk_below (g := gb353) (o := .cells #[.slice Ao71 t377.length co71, .slice Ao78 t378.length co78] 26 (0, 0)) (kU BK353.out) hb); replace BK399 := Aside0.mk (blk_below (g := gb399) (o := .cells #[.slice Ao169 t392.length co169, .slice Ao171 t395.length co171] 26 (0, 0)) (kU BK399.out) hb); replace HB := Aside0.mk (below_step (by repeat (first | (with_reducible first | exact HB.out | apply below_alloc | apply pw_below_drewN | apply below_drew1 | refine below_set ?_ GE308.out | refine below_set ?_ GE309.out | refine below_set ?_ GE331.out | refine below_set ?_ GE338.out | refine below_set ?_ GE345.out | refine below_set ?_ GE353.out | refine below_set ?_ GE399.out) | exact HB.out)) hb); (try clear hb); (try clear hb2); (try clear hk); (try clear hi)))
                  go_ret
                  exact ⟨by first | rfl | (simp [errW_none, errW_some] <;> rfl) | (simp [*, errW_none, errW_some] <;> rfl), by repeat (first | (with_reducible first | exact HB.out | apply below_alloc | apply pw_below_drewN | apply below_drew1 | refine below_set ?_ GE308.out | refine below_set ?_ GE309.out | refine below_set ?_ GE331.out | refine below_set ?_ GE338.out | refine below_set ?_ GE345.out | refine below_set ?_ GE353.out | refine below_set ?_ GE399.out) | exact HB.out)⟩
                 ·
                  rw [if_neg c192] at H
                  have c192b0 : (t401 == t376) = false := beq_eq_false_iff_ne.mpr c192
                  have c192b1 : (t401 != t376) = true := bne_iff_ne.mpr c192
                  obtain rfl := Option.some.inj H
                  exact absurd HT.out (by decide)
theorem laws_FnExactRotate.calls (k : Nat) (A0_0 : Option Addr) (c0_0 : Nat) (l0_0 : List Int) (A0_1 : Option Addr) (c0_1 : Nat) (l0_1 : List Int) (A1_0 : Option Addr) (c1_0 : Nat) (l1_0 : List Int) (A1_1 : Option Addr) (c1_1 : Nat) (l1_1 : List Int) (r : Bool) (w : World) (hr0_0 : Kd.C (Kd.int .i64) w A0_0 l0_0.length l0_0) (hc0_0 : l0_0.length ≤ c0_0) (hr0_1 : Kd.C (Kd.int .i64) w A0_1 l0_1.length l0_1) (hc0_1 : l0_1.length ≤ c0_1) (hr1_0 : Kd.C (Kd.int .i64) w A1_0 l1_0.length l1_0) (hc1_0 : l1_0.length ≤ c1_0) (hr1_1 : Kd.C (Kd.int .i64) w A1_1 l1_1.length l1_1) (hc1_1 : l1_1.length ≤ c1_1) (h : laws_FnExactRotate.f k l0_0 l0_1 l1_0 l1_1 = some r) (hT : r = true) :
    Calls Try.prog 7 #[.agg #[.slice A0_0 l0_0.length c0_0, .slice A0_1 l0_1.length c0_1], .agg #[.slice A1_0 l1_0.length c1_0, .slice A1_1 l1_1.length c1_1]] w fun e w' => e = .returned (.bool r) ∧ Below w.heap.size w w' := by
  exact (laws_FnExactRotate.part1.2 fun _ => laws_FnExactRotate.part2) k A0_0 c0_0 l0_0 A0_1 c0_1 l0_1 A1_0 c1_0 l1_0 A1_1 c1_1 l1_1 r w hr0_0 hc0_0 hr0_1 hc0_1 hr1_0 hc1_0 hr1_1 hc1_1 h hT
end Go.Proofs.Ytcnbajdnlkcjjaa.PFnExactRotate
