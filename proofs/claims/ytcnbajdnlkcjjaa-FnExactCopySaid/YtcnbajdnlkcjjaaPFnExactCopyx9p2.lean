/- A law's walk, written in parts: this is part 2. It has no condition of its own. -/
import Derived.Test.YtcnbajdnlkcjjaaPFnExactCopyx9
namespace Go.Proofs.Ytcnbajdnlkcjjaa.PFnExactCopy
open Go.RowKit Go.Proofs.YtcnbajdnlkcjjaaW.PrintWords Go.Proofs.YtcnbajdnlkcjjaaW.PrintLast Go.Proofs.YtcnbajdnlkcjjaaW.PrintMore Go.Proofs.YtcnbajdnlkcjjaaQ
attribute [local go_sem] max2_int min2_int max_two min_two max_three min_three max_four min_four   -- for this text's walks alone
set_option linter.unusedVariables false
set_option linter.unusedSimpArgs false
set_option maxHeartbeats 8000000 in
set_option maxRecDepth 100000 in
theorem laws_FnExactCopy.part2 : laws_FnExactCopy.part1.1 := by
             intro k A0_0 c0_0 l0_0 A0_1 c0_1 l0_1 A1_0 c1_0 l1_0 A1_1 c1_1 l1_1 r w HT hu24 hu26 HR0_0 HC0_0 HR0_1 HC0_1 HR1_0 HC1_0 HR1_1 HC1_1 t274 A3 c4b0 t275 A10 c11b0 t276 t279 A19 t282 t285 A20 t288 t291 t294 A21 t296 t299 A22 t303 t306 A23 t310 t313 t316 A24 _ gb272 w26 GW272 GE272 gb273 w27 GW273 GE273 NB272_273 NB273_272 hnb28 hnc28 hcz29_0 hcz29_1 hfz29_0 hfz29_1 w30 hcz31_0 hcz31_1 hfz31_0 hfz31_1 w32 _ _ w33 _ v277 v280 v283 v286 gb295 w42 hS_ GW295 GE295 NB272_295 NB295_272 NB273_295 NB295_273 _ Ao43 co43 Ao45 co45 hs44 hfs44 hns44_0 hns44_1 hms44_0 hms44_1 hs46 hfs46 hns46_0 hns46_1 hms46_0 hms46_1 _ hnb47 hnc47 w49 gb302 w50 GW302 GE302 NB272_302 NB302_272 NB273_302 NB302_273 NB295_302 NB302_295 Ao51 co51 hnb52 hnc52 hnb53 hnc53 hnb54 hnc54 Ao56 co56 hnb57 hnc57 w59 gb309 w60 GW309 GE309 NB272_309 NB309_272 NB273_309 NB309_273 NB295_309 NB309_295 NB302_309 NB309_302 Ao61 co61 hnb62 hnc62 hnb63 hnc63 hnb64 hnc64 hnb65 hnc65 Ao67 co67 w69 gb317 w70 _ GW317 GE317 _ NB272_317 NB317_272 _ NB273_317 NB317_273 _ NB295_317 NB317_295 _ NB302_317 NB317_302 _ NB309_317 NB317_309 _ Ao71 co71 hnb72 hnc72 hnb73 hnc73 hnb74 hnc74 hnb75 hnc75 hnb76 hnc76 Ao78 co78 HO278 HO281 HO284 HO287 HO290 HO293 HO298 HO301 HO305 HO308 HO312 HO315 _ _ _ _ _ _ _ _ _ _ _ _ _ _ _ _ _ _ _ _ _ _ _ _ _ _ _ _ _ _ _ _ _ _ _ _ _ _ _ _ _ _ _ _ _ _ _ _ _ _ _ _ _ _ _ _ _ _ _ _ _ _ _ _ _ u82 _ _ _ _ _ _ _ _ _ _ _ _ _ _ _ _ _ _ _ _ _ _ _ _ _ _ _ _ _ _ _ _ _ _ _ _ kj24 HJ24 t319 t322 A94 A95 t326 t329 A97 A98 t333 t334 t335 A100 t336 t337 t338 A101 w103 _ w104 Ao105 co105 Ao106 co106 _ w107 _ w108 _ w109 Ao110 co110 Ao111 co111 _ w112 _ hnb113 hnc113 hnb114 hnc114 hnb115 hnc115 hnb116 hnc116 hnb117 hnc117 w119 hnb120 hnc120 hnb121 hnc121 hnb122 hnc122 hnb123 hnc123 w125 _ _ _ _ _ _ _ _ _ _ _ _ _ _ HO321 HO324 HO328 HO331 _ wc u17 u18 u19 u20 u21 u22 u23 u24 u25 u26 u27 u28 u29 u30 u31 u32 u33 u34 u35 u36 u37 u38 u39 u40 u41 u42 u43 u44 u45 u46 u47 u48 u49 u50 u51 u52 u53 u54 u55 u56 u57 u58 u59 u60 u61 u62 u63 u64 u65 u66 u67 u68 u69 u70 u71 u72 u73 u74 u75 u76 u77 u78 u79 u80 u81 u83 u84 u85 u86 u87 u88 u89 u90 u91 u92 u93 u94 u95 u96 u97 u98 u99 u100 u101 u102 u103 u104 u105 u106 u107 u108 u109 u110 u111 u112 u113 u114 u115 u116 u117 u118 hl303000_101 hl303001_101 hl310000_101 hl310001_101 kj101 HJ101 t340 t341 t342 A142 t343 A143 c144b0 c145b0 c145b1 t344 t347 A146 t350 t353 A147 t356 t359 t362 A148 HC149 hnb150 hnc150 hnb151 hnc151 hnb152 hnc152 hnb153 hnc153 hnb154 hnc154 hcz155_0 hcz155_1 hfz155_0 hfz155_1 w156 hcz157_0 hcz157_1 hfz157_0 hfz157_1 w158 _ _ HT_ HW_ w159 HO_296000 HO_296001 HO_303000 HO_303001 HO_310000 HO_310001 HO_318000 HO_318001 BK272 BK273 BK295 BK302 BK309 BK317 HB hHeld
             refine join_ (σ := Value × Value × Value × Value × Value × Value × Nat) 2 #[true, true, true, true, true, true, true, true, true, false, false] (fun s_ => [(96, .agg #[s_.1, s_.2.1]), (98, .agg #[s_.2.2.1, s_.2.2.2.1]), (99, .tuple #[.agg #[s_.2.2.2.2.1, s_.2.2.2.2.2.1], .int .i64 t362]), (15, .pointer (some ⟨s_.2.2.2.2.2.2, 0, none⟩)), (94, .tuple #[.agg #[s_.2.2.2.2.1, s_.2.2.2.2.2.1], .int .i64 t362]), (100, .agg #[s_.2.2.2.2.1, s_.2.2.2.2.2.1]), (101, .int .i64 t362)]) (fun s_ w' => (w'.cell? ⟨gb272, 0, none⟩ = some (.slice A0_0 l0_0.length c0_0) ∧ w'.cell? ⟨gb272, 1, none⟩ = some (.slice A0_1 l0_1.length c0_1) ∧ w'.cell? ⟨gb273, 0, none⟩ = some (.slice A1_0 l1_0.length c1_0) ∧ w'.cell? ⟨gb273, 1, none⟩ = some (.slice A1_1 l1_1.length c1_1)) ∧ (Kd.R (Kd.int .i64) 3 w' w.heap.size (fun k_ => some k_ ≠ (s_.2.1 : Value).ownBlock ∧ some k_ ≠ (s_.2.2.1 : Value).ownBlock ∧ some k_ ≠ (s_.2.2.2.1 : Value).ownBlock ∧ some k_ ≠ (s_.2.2.2.2.1 : Value).ownBlock ∧ some k_ ≠ (s_.2.2.2.2.2.1 : Value).ownBlock ∧ some k_ ≠ (.slice Ao43 t288.length co43 : Value).ownBlock ∧ some k_ ≠ (.slice Ao45 t291.length co45 : Value).ownBlock ∧ some k_ ≠ (.slice Ao51 t334.length co51 : Value).ownBlock ∧ some k_ ≠ (.slice Ao56 t335.length co56 : Value).ownBlock ∧ some k_ ≠ (.slice Ao61 t337.length co61 : Value).ownBlock ∧ some k_ ≠ (.slice Ao67 t338.length co67 : Value).ownBlock ∧ some k_ ≠ (.slice Ao71 t310.length co71 : Value).ownBlock ∧ some k_ ≠ (.slice Ao78 t313.length co78 : Value).ownBlock) s_.1 t344) ∧ (Kd.R (Kd.int .i64) 3 w' w.heap.size (fun k_ => some k_ ≠ (s_.1 : Value).ownBlock ∧ some k_ ≠ (s_.2.2.1 : Value).ownBlock ∧ some k_ ≠ (s_.2.2.2.1 : Value).ownBlock ∧ some k_ ≠ (s_.2.2.2.2.1 : Value).ownBlock ∧ some k_ ≠ (s_.2.2.2.2.2.1 : Value).ownBlock ∧ some k_ ≠ (.slice Ao43 t288.length co43 : Value).ownBlock ∧ some k_ ≠ (.slice Ao45 t291.length co45 : Value).ownBlock ∧ some k_ ≠ (.slice Ao51 t334.length co51 : Value).ownBlock ∧ some k_ ≠ (.slice Ao56 t335.length co56 : Value).ownBlock ∧ some k_ ≠ (.slice Ao61 t337.length co61 : Value).ownBlock ∧ some k_ ≠ (.slice Ao67 t338.length co67 : Value).ownBlock ∧ some k_ ≠ (.slice Ao71 t310.length co71 : Value).ownBlock ∧ some k_ ≠ (.slice Ao78 t313.length co78 : Value).ownBlock) s_.2.1 t347) ∧ (Kd.R (Kd.int .i64) 3 w' w.heap.size (fun k_ => some k_ ≠ (s_.1 : Value).ownBlock ∧ some k_ ≠ (s_.2.1 : Value).ownBlock ∧ some k_ ≠ (s_.2.2.2.1 : Value).ownBlock ∧ some k_ ≠ (s_.2.2.2.2.1 : Value).ownBlock ∧ some k_ ≠ (s_.2.2.2.2.2.1 : Value).ownBlock ∧ some k_ ≠ (.slice Ao43 t288.length co43 : Value).ownBlock ∧ some k_ ≠ (.slice Ao45 t291.length co45 : Value).ownBlock ∧ some k_ ≠ (.slice Ao51 t334.length co51 : Value).ownBlock ∧ some k_ ≠ (.slice Ao56 t335.length co56 : Value).ownBlock ∧ some k_ ≠ (.slice Ao61 t337.length co61 : Value).ownBlock ∧ some k_ ≠ (.slice Ao67 t338.length co67 : Value).ownBlock ∧ some k_ ≠ (.slice Ao71 t310.length co71 : Value).ownBlock ∧ some k_ ≠ (.slice Ao78 t313.length co78 : Value).ownBlock) s_.2.2.1 t350) ∧ (Kd.R (Kd.int .i64) 3 w' w.heap.size (fun k_ => some k_ ≠ (s_.1 : Value).ownBlock ∧ some k_ ≠ (s_.2.1 : Value).ownBlock ∧ some k_ ≠ (s_.2.2.1 : Value).ownBlock ∧ some k_ ≠ (s_.2.2.2.2.1 : Value).ownBlock ∧ some k_ ≠ (s_.2.2.2.2.2.1 : Value).ownBlock ∧ some k_ ≠ (.slice Ao43 t288.length co43 : Value).ownBlock ∧ some k_ ≠ (.slice Ao45 t291.length co45 : Value).ownBlock ∧ some k_ ≠ (.slice Ao51 t334.length co51 : Value).ownBlock ∧ some k_ ≠ (.slice Ao56 t335.length co56 : Value).ownBlock ∧ some k_ ≠ (.slice Ao61 t337.length co61 : Value).ownBlock ∧ some k_ ≠ (.slice Ao67 t338.length co67 : Value).ownBlock ∧ some k_ ≠ (.slice Ao71 t310.length co71 : Value).ownBlock ∧ some k_ ≠ (.slice Ao78 t313.length co78 : Value).ownBlock) s_.2.2.2.1 t353) ∧ (Kd.R (Kd.int .i64) 3 w' w.heap.size (fun k_ => some k_ ≠ (s_.1 : Value).ownBlock ∧ some k_ ≠ (s_.2.1 : Value).ownBlock ∧ some k_ ≠ (s_.2.2.1 : Value).ownBlock ∧ some k_ ≠ (s_.2.2.2.1 : Value).ownBlock ∧ some k_ ≠ (s_.2.2.2.2.2.1 : Value).ownBlock ∧ some k_ ≠ (.slice Ao43 t288.length co43 : Value).ownBlock ∧ some k_ ≠ (.slice Ao45 t291.length co45 : Value).ownBlock ∧ some k_ ≠ (.slice Ao51 t334.length co51 : Value).ownBlock ∧ some k_ ≠ (.slice Ao56 t335.length co56 : Value).ownBlock ∧ some k_ ≠ (.slice Ao61 t337.length co61 : Value).ownBlock ∧ some k_ ≠ (.slice Ao67 t338.length co67 : Value).ownBlock ∧ some k_ ≠ (.slice Ao71 t310.length co71 : Value).ownBlock ∧ some k_ ≠ (.slice Ao78 t313.length co78 : Value).ownBlock) s_.2.2.2.2.1 t356) ∧ (Kd.R (Kd.int .i64) 3 w' w.heap.size (fun k_ => some k_ ≠ (s_.1 : Value).ownBlock ∧ some k_ ≠ (s_.2.1 : Value).ownBlock ∧ some k_ ≠ (s_.2.2.1 : Value).ownBlock ∧ some k_ ≠ (s_.2.2.2.1 : Value).ownBlock ∧ some k_ ≠ (s_.2.2.2.2.1 : Value).ownBlock ∧ some k_ ≠ (.slice Ao43 t288.length co43 : Value).ownBlock ∧ some k_ ≠ (.slice Ao45 t291.length co45 : Value).ownBlock ∧ some k_ ≠ (.slice Ao51 t334.length co51 : Value).ownBlock ∧ some k_ ≠ (.slice Ao56 t335.length co56 : Value).ownBlock ∧ some k_ ≠ (.slice Ao61 t337.length co61 : Value).ownBlock ∧ some k_ ≠ (.slice Ao67 t338.length co67 : Value).ownBlock ∧ some k_ ≠ (.slice Ao71 t310.length co71 : Value).ownBlock ∧ some k_ ≠ (.slice Ao78 t313.length co78 : Value).ownBlock) s_.2.2.2.2.2.1 t359) ∧ (Kd.R (Kd.int .i64) 3 w' w.heap.size (fun k_ => some k_ ≠ (s_.1 : Value).ownBlock ∧ some k_ ≠ (s_.2.1 : Value).ownBlock ∧ some k_ ≠ (s_.2.2.1 : Value).ownBlock ∧ some k_ ≠ (s_.2.2.2.1 : Value).ownBlock ∧ some k_ ≠ (s_.2.2.2.2.1 : Value).ownBlock ∧ some k_ ≠ (s_.2.2.2.2.2.1 : Value).ownBlock ∧ some k_ ≠ (.slice Ao45 t291.length co45 : Value).ownBlock ∧ some k_ ≠ (.slice Ao51 t334.length co51 : Value).ownBlock ∧ some k_ ≠ (.slice Ao56 t335.length co56 : Value).ownBlock ∧ some k_ ≠ (.slice Ao61 t337.length co61 : Value).ownBlock ∧ some k_ ≠ (.slice Ao67 t338.length co67 : Value).ownBlock ∧ some k_ ≠ (.slice Ao71 t310.length co71 : Value).ownBlock ∧ some k_ ≠ (.slice Ao78 t313.length co78 : Value).ownBlock) (.slice Ao43 t288.length co43) t288) ∧ (Kd.R (Kd.int .i64) 3 w' w.heap.size (fun k_ => some k_ ≠ (s_.1 : Value).ownBlock ∧ some k_ ≠ (s_.2.1 : Value).ownBlock ∧ some k_ ≠ (s_.2.2.1 : Value).ownBlock ∧ some k_ ≠ (s_.2.2.2.1 : Value).ownBlock ∧ some k_ ≠ (s_.2.2.2.2.1 : Value).ownBlock ∧ some k_ ≠ (s_.2.2.2.2.2.1 : Value).ownBlock ∧ some k_ ≠ (.slice Ao43 t288.length co43 : Value).ownBlock ∧ some k_ ≠ (.slice Ao51 t334.length co51 : Value).ownBlock ∧ some k_ ≠ (.slice Ao56 t335.length co56 : Value).ownBlock ∧ some k_ ≠ (.slice Ao61 t337.length co61 : Value).ownBlock ∧ some k_ ≠ (.slice Ao67 t338.length co67 : Value).ownBlock ∧ some k_ ≠ (.slice Ao71 t310.length co71 : Value).ownBlock ∧ some k_ ≠ (.slice Ao78 t313.length co78 : Value).ownBlock) (.slice Ao45 t291.length co45) t291) ∧ (Kd.R (Kd.int .i64) 3 w' w.heap.size (fun k_ => some k_ ≠ (s_.1 : Value).ownBlock ∧ some k_ ≠ (s_.2.1 : Value).ownBlock ∧ some k_ ≠ (s_.2.2.1 : Value).ownBlock ∧ some k_ ≠ (s_.2.2.2.1 : Value).ownBlock ∧ some k_ ≠ (s_.2.2.2.2.1 : Value).ownBlock ∧ some k_ ≠ (s_.2.2.2.2.2.1 : Value).ownBlock ∧ some k_ ≠ (.slice Ao43 t288.length co43 : Value).ownBlock ∧ some k_ ≠ (.slice Ao45 t291.length co45 : Value).ownBlock ∧ some k_ ≠ (.slice Ao56 t335.length co56 : Value).ownBlock ∧ some k_ ≠ (.slice Ao61 t337.length co61 : Value).ownBlock ∧ some k_ ≠ (.slice Ao67 t338.length co67 : Value).ownBlock ∧ some k_ ≠ (.slice Ao71 t310.length co71 : Value).ownBlock ∧ some k_ ≠ (.slice Ao78 t313.length co78 : Value).ownBlock) (.slice Ao51 t334.length co51) t334) ∧ (Kd.R (Kd.int .i64) 3 w' w.heap.size (fun k_ => some k_ ≠ (s_.1 : Value).ownBlock ∧ some k_ ≠ (s_.2.1 : Value).ownBlock ∧ some k_ ≠ (s_.2.2.1 : Value).ownBlock ∧ some k_ ≠ (s_.2.2.2.1 : Value).ownBlock ∧ some k_ ≠ (s_.2.2.2.2.1 : Value).ownBlock ∧ some k_ ≠ (s_.2.2.2.2.2.1 : Value).ownBlock ∧ some k_ ≠ (.slice Ao43 t288.length co43 : Value).ownBlock ∧ some k_ ≠ (.slice Ao45 t291.length co45 : Value).ownBlock ∧ some k_ ≠ (.slice Ao51 t334.length co51 : Value).ownBlock ∧ some k_ ≠ (.slice Ao61 t337.length co61 : Value).ownBlock ∧ some k_ ≠ (.slice Ao67 t338.length co67 : Value).ownBlock ∧ some k_ ≠ (.slice Ao71 t310.length co71 : Value).ownBlock ∧ some k_ ≠ (.slice Ao78 t313.length co78 : Value).ownBlock) (.slice Ao56 t335.length co56) t335) ∧ (Kd.R (Kd.int .i64) 3 w' w.heap.size (fun k_ => some k_ ≠ (s_.1 : Value).ownBlock ∧ some k_ ≠ (s_.2.1 : Value).ownBlock ∧ some k_ ≠ (s_.2.2.1 : Value).ownBlock ∧ some k_ ≠ (s_.2.2.2.1 : Value).ownBlock ∧ some k_ ≠ (s_.2.2.2.2.1 : Value).ownBlock ∧ some k_ ≠ (s_.2.2.2.2.2.1 : Value).ownBlock ∧ some k_ ≠ (.slice Ao43 t288.length co43 : Value).ownBlock ∧ some k_ ≠ (.slice Ao45 t291.length co45 : Value).ownBlock ∧ some k_ ≠ (.slice Ao51 t334.length co51 : Value).ownBlock ∧ some k_ ≠ (.slice Ao56 t335.length co56 : Value).ownBlock ∧ some k_ ≠ (.slice Ao67 t338.length co67 : Value).ownBlock ∧ some k_ ≠ (.slice Ao71 t310.length co71 : Value).ownBlock ∧ some k_ ≠ (.slice Ao78 t313.length co78 : Value).ownBlock) (.slice Ao61 t337.length co61) t337) ∧ (Kd.R (Kd.int .i64) 3 w' w.heap.size (fun k_ => some k_ ≠ (s_.1 : Value).ownBlock ∧ some k_ ≠ (s_.2.1 : Value).ownBlock ∧ some k_ ≠ (s_.2.2.1 : Value).ownBlock ∧ some k_ ≠ (s_.2.2.2.1 : Value).ownBlock ∧ some k_ ≠ (s_.2.2.2.2.1 : Value).ownBlock ∧ some k_ ≠ (s_.2.2.2.2.2.1 : Value).ownBlock ∧ some k_ ≠ (.slice Ao43 t288.length co43 : Value).ownBlock ∧ some k_ ≠ (.slice Ao45 t291.length co45 : Value).ownBlock ∧ some k_ ≠ (.slice Ao51 t334.length co51 : Value).ownBlock ∧ some k_ ≠ (.slice Ao56 t335.length co56 : Value).ownBlock ∧ some k_ ≠ (.slice Ao61 t337.length co61 : Value).ownBlock ∧ some k_ ≠ (.slice Ao71 t310.length co71 : Value).ownBlock ∧ some k_ ≠ (.slice Ao78 t313.length co78 : Value).ownBlock) (.slice Ao67 t338.length co67) t338) ∧ (Kd.R (Kd.int .i64) 3 w' w.heap.size (fun k_ => some k_ ≠ (s_.1 : Value).ownBlock ∧ some k_ ≠ (s_.2.1 : Value).ownBlock ∧ some k_ ≠ (s_.2.2.1 : Value).ownBlock ∧ some k_ ≠ (s_.2.2.2.1 : Value).ownBlock ∧ some k_ ≠ (s_.2.2.2.2.1 : Value).ownBlock ∧ some k_ ≠ (s_.2.2.2.2.2.1 : Value).ownBlock ∧ some k_ ≠ (.slice Ao43 t288.length co43 : Value).ownBlock ∧ some k_ ≠ (.slice Ao45 t291.length co45 : Value).ownBlock ∧ some k_ ≠ (.slice Ao51 t334.length co51 : Value).ownBlock ∧ some k_ ≠ (.slice Ao56 t335.length co56 : Value).ownBlock ∧ some k_ ≠ (.slice Ao61 t337.length co61 : Value).ownBlock ∧ some k_ ≠ (.slice Ao67 t338.length co67 : Value).ownBlock ∧ some k_ ≠ (.slice Ao78 t313.length co78 : Value).ownBlock) (.slice Ao71 t310.length co71) t341) ∧ (Kd.R (Kd.int .i64) 3 w' w.heap.size (fun k_ => some k_ ≠ (s_.1 : Value).ownBlock ∧ some k_ ≠ (s_.2.1 : Value).ownBlock ∧ some k_ ≠ (s_.2.2.1 : Value).ownBlock ∧ some k_ ≠ (s_.2.2.2.1 : Value).ownBlock ∧ some k_ ≠ (s_.2.2.2.2.1 : Value).ownBlock ∧ some k_ ≠ (s_.2.2.2.2.2.1 : Value).ownBlock ∧ some k_ ≠ (.slice Ao43 t288.length co43 : Value).ownBlock ∧ some k_ ≠ (.slice Ao45 t291.length co45 : Value).ownBlock ∧ some k_ ≠ (.slice Ao51 t334.length co51 : Value).ownBlock ∧ some k_ ≠ (.slice Ao56 t335.length co56 : Value).ownBlock ∧ some k_ ≠ (.slice Ao61 t337.length co61 : Value).ownBlock ∧ some k_ ≠ (.slice Ao67 t338.length co67 : Value).ownBlock ∧ some k_ ≠ (.slice Ao71 t310.length co71 : Value).ownBlock) (.slice Ao78 t313.length co78) t342) ∧ (w'.heap[gb272]? = some (.cells #[.slice A0_0 l0_0.length c0_0, .slice A0_1 l0_1.length c0_1] 24 (0, 0))) ∧ (w'.heap[gb273]? = some (.cells #[.slice A1_0 l1_0.length c1_0, .slice A1_1 l1_1.length c1_1] 24 (0, 0))) ∧ (w'.heap[gb295]? = some (.cells #[.slice Ao43 t288.length co43, .slice Ao45 t291.length co45] 26 (0, 0))) ∧ (w'.heap[gb302]? = some (.cells #[.slice Ao51 t334.length co51, .slice Ao56 t335.length co56] 26 (0, 0))) ∧ (w'.heap[gb309]? = some (.cells #[.slice Ao61 t337.length co61, .slice Ao67 t338.length co67] 26 (0, 0))) ∧ (w'.heap[gb317]? = some (.cells #[.slice Ao71 t310.length co71, .slice Ao78 t313.length co78] 26 (0, 0))) ∧ (w'.heap[s_.2.2.2.2.2.2]? = some (.cells #[.slice none 0 0, .slice none 0 0] 26 (0, 0))) ∧ (w.heap.size ≤ s_.2.2.2.2.2.2) ∧ (w.heap.size ≤ s_.2.2.2.2.2.2) ∧ (gb272 ≠ s_.2.2.2.2.2.2) ∧ (s_.2.2.2.2.2.2 ≠ gb272) ∧ (gb273 ≠ s_.2.2.2.2.2.2) ∧ (s_.2.2.2.2.2.2 ≠ gb273) ∧ (gb295 ≠ s_.2.2.2.2.2.2) ∧ (s_.2.2.2.2.2.2 ≠ gb295) ∧ (gb302 ≠ s_.2.2.2.2.2.2) ∧ (s_.2.2.2.2.2.2 ≠ gb302) ∧ (gb309 ≠ s_.2.2.2.2.2.2) ∧ (s_.2.2.2.2.2.2 ≠ gb309) ∧ (gb317 ≠ s_.2.2.2.2.2.2) ∧ (s_.2.2.2.2.2.2 ≠ gb317) ∧ (Below w.heap.size w w')) ?_ ?_
             rotate_left
             ·
              intro hCont
              refine two_ (i := 1) (j := 8) (Ni := some 96) (Nj := some 15) #[true, true, true, false, false, false, false, false, false, false, false] #[true, false, true, false, false, false, false, false, true, false, false] rfl rfl rfl rfl (two_of HT_.out (by kernel_rfl)) (by decide) (by decide) (fun K hK => ?_) (fun K hK => ?_)
              ·
               skip
               refine goes_ Try.func17 (by kernel_rfl) rfl #[.agg #[.slice A0_0 l0_0.length c0_0, .slice A0_1 l0_1.length c0_1]] (by rfl) rfl rfl (by (try simp only [List.map_toArray, List.map_cons, List.map_nil]); first | done | rfl | (simp only [List.length_drop, List.length_take]; rfl)) ?_
               with_reducible refine (laws_toArray.calls kj101 _ _ l0_0 _ _ l0_1 t344 t347 _ ?side1 ?side2 ?side3 ?side4 A146.out).mono ?_
               (case side1 => exact cU (Kd.C_below HR0_0.out HB.out))
               (case side2 => exact HC0_0.out)
               (case side3 => exact cU (Kd.C_below HR0_1.out HB.out))
               (case side4 => exact HC0_1.out)
               rintro e w160 ⟨v345, v348, rfl, ho0, ho1, hb⟩
               refine ⟨_, rfl, ?_⟩
               have HO346 := Aside0.mk (Kd.R_lower (Kd.R_new' (Kd.R_new' (Kd.R_new' (Kd.R_new' (Kd.R_new' (Kd.R_new' (Kd.R_new' (Kd.R_new' ho0 (Kd.R_lt (RU HO_296000.out))) (Kd.R_lt (RU HO_296001.out))) (Kd.R_lt (RU HO_303000.out))) (Kd.R_lt (RU HO_303001.out))) (Kd.R_lt (RU HO_310000.out))) (Kd.R_lt (RU HO_310001.out))) (Kd.R_lt (RU HO_318000.out))) (Kd.R_lt (RU HO_318001.out))) (below_size (bS6 HB.out GE272.out GE273.out GE295.out GE302.out GE309.out GE317.out)))
               have HO349 := Aside0.mk (Kd.R_lower (Kd.R_new' (Kd.R_new' (Kd.R_new' (Kd.R_new' (Kd.R_new' (Kd.R_new' (Kd.R_new' (Kd.R_new' ho1 (Kd.R_lt (RU HO_296000.out))) (Kd.R_lt (RU HO_296001.out))) (Kd.R_lt (RU HO_303000.out))) (Kd.R_lt (RU HO_303001.out))) (Kd.R_lt (RU HO_310000.out))) (Kd.R_lt (RU HO_310001.out))) (Kd.R_lt (RU HO_318000.out))) (Kd.R_lt (RU HO_318001.out))) (below_size (bS6 HB.out GE272.out GE273.out GE295.out GE302.out GE309.out GE317.out)))
               replace HO_296000 := Aside0.mk (Kd.R_mono (Kd.R_told (Kd.R_told (Kd.R_old (RU HO_296000.out) hb) (Kd.R_base ho0)) (Kd.R_base ho1)) (fun _ h_ => h_.1))
               replace HO_296001 := Aside0.mk (Kd.R_mono (Kd.R_told (Kd.R_told (Kd.R_old (RU HO_296001.out) hb) (Kd.R_base ho0)) (Kd.R_base ho1)) (fun _ h_ => h_.1))
               replace HO_303000 := Aside0.mk (Kd.R_mono (Kd.R_told (Kd.R_told (Kd.R_old (RU HO_303000.out) hb) (Kd.R_base ho0)) (Kd.R_base ho1)) (fun _ h_ => h_.1))
               replace HO_303001 := Aside0.mk (Kd.R_mono (Kd.R_told (Kd.R_told (Kd.R_old (RU HO_303001.out) hb) (Kd.R_base ho0)) (Kd.R_base ho1)) (fun _ h_ => h_.1))
               replace HO_310000 := Aside0.mk (Kd.R_mono (Kd.R_told (Kd.R_told (Kd.R_old (RU HO_310000.out) hb) (Kd.R_base ho0)) (Kd.R_base ho1)) (fun _ h_ => h_.1))
               replace HO_310001 := Aside0.mk (Kd.R_mono (Kd.R_told (Kd.R_told (Kd.R_old (RU HO_310001.out) hb) (Kd.R_base ho0)) (Kd.R_base ho1)) (fun _ h_ => h_.1))
               replace HO_318000 := Aside0.mk (Kd.R_mono (Kd.R_told (Kd.R_told (Kd.R_old (RU HO_318000.out) hb) (Kd.R_base ho0)) (Kd.R_base ho1)) (fun _ h_ => h_.1))
               replace HO_318001 := Aside0.mk (Kd.R_mono (Kd.R_told (Kd.R_told (Kd.R_old (RU HO_318001.out) hb) (Kd.R_base ho0)) (Kd.R_base ho1)) (fun _ h_ => h_.1))
               replace BK272 := Aside0.mk (blk_below (g := gb272) (o := .cells #[.slice A0_0 l0_0.length c0_0, .slice A0_1 l0_1.length c0_1] 24 (0, 0)) (kU BK272.out) hb)
               replace BK273 := Aside0.mk (blk_below (g := gb273) (o := .cells #[.slice A1_0 l1_0.length c1_0, .slice A1_1 l1_1.length c1_1] 24 (0, 0)) (kU BK273.out) hb)
               replace BK295 := Aside0.mk (blk_below (g := gb295) (o := .cells #[.slice Ao43 t288.length co43, .slice Ao45 t291.length co45] 26 (0, 0)) (kU BK295.out) hb)
               replace BK302 := Aside0.mk (blk_below (g := gb302) (o := .cells #[.slice Ao51 t334.length co51, .slice Ao56 t335.length co56] 26 (0, 0)) (kU BK302.out) hb)
               replace BK309 := Aside0.mk (blk_below (g := gb309) (o := .cells #[.slice Ao61 t337.length co61, .slice Ao67 t338.length co67] 26 (0, 0)) (kU BK309.out) hb)
               replace BK317 := Aside0.mk (blk_below (g := gb317) (o := .cells #[.slice Ao71 t310.length co71, .slice Ao78 t313.length co78] 26 (0, 0)) (kU BK317.out) hb)
               replace HB := Aside0.mk (below_step (bS6 HB.out GE272.out GE273.out GE295.out GE302.out GE309.out GE317.out) hb)
               (try clear hb)
               (try clear hb2)
               (try clear hk)
               (try clear hi)
               (try clear ho0)
               (try clear ho1)
               refine hK.out _ _ ⟨(blk_cell BK272.out 0).trans rfl, (blk_cell BK272.out 1).trans rfl, (blk_cell BK273.out 0).trans rfl, (blk_cell BK273.out 1).trans rfl⟩ (fun hHeld => ?_)
               clear hK K
               refine norm_ (a' := ?_) ?_ ?_
               rotate_left
               ·
                show Act.put _ (some 96) _ = _
                simp only [Act.put, List.setIfInBounds_toArray, List.set_cons_zero, List.set_cons_succ, i64_w, i32_w]
                rfl
               refine two_ (i := 3) (j := 8) (Ni := some 98) (Nj := some 15) #[true, true, true, true, false, false, false, false, false, false, false] #[true, true, true, false, false, false, false, false, true, false, false] rfl rfl rfl rfl (two_of HT_.out (by kernel_rfl)) (by decide) (by decide) (fun K hK => ?_) (fun K hK => ?_)
               ·
                skip
                refine goes_ Try.func17 (by kernel_rfl) rfl #[.agg #[.slice A1_0 l1_0.length c1_0, .slice A1_1 l1_1.length c1_1]] (by rfl) rfl rfl (by (try simp only [List.map_toArray, List.map_cons, List.map_nil]); first | done | rfl | (simp only [List.length_drop, List.length_take]; rfl)) ?_
                with_reducible refine (laws_toArray.calls kj101 _ _ l1_0 _ _ l1_1 t350 t353 _ ?side1 ?side2 ?side3 ?side4 A147.out).mono ?_
                (case side1 => exact cU (Kd.C_below HR1_0.out HB.out))
                (case side2 => exact HC1_0.out)
                (case side3 => exact cU (Kd.C_below HR1_1.out HB.out))
                (case side4 => exact HC1_1.out)
                rintro e w161 ⟨v351, v354, rfl, ho0, ho1, hb⟩
                refine ⟨_, rfl, ?_⟩
                have HO352 := Aside0.mk (Kd.R_lower (Kd.R_new' (Kd.R_new' (Kd.R_new' (Kd.R_new' (Kd.R_new' (Kd.R_new' (Kd.R_new' (Kd.R_new' (Kd.R_new' (Kd.R_new' ho0 (Kd.R_lt (RU HO_296000.out))) (Kd.R_lt (RU HO_296001.out))) (Kd.R_lt (RU HO_303000.out))) (Kd.R_lt (RU HO_303001.out))) (Kd.R_lt (RU HO_310000.out))) (Kd.R_lt (RU HO_310001.out))) (Kd.R_lt (RU HO_318000.out))) (Kd.R_lt (RU HO_318001.out))) (Kd.R_lt (RU HO346.out))) (Kd.R_lt (RU HO349.out))) (below_size (bS6 HB.out GE272.out GE273.out GE295.out GE302.out GE309.out GE317.out)))
                have HO355 := Aside0.mk (Kd.R_lower (Kd.R_new' (Kd.R_new' (Kd.R_new' (Kd.R_new' (Kd.R_new' (Kd.R_new' (Kd.R_new' (Kd.R_new' (Kd.R_new' (Kd.R_new' ho1 (Kd.R_lt (RU HO_296000.out))) (Kd.R_lt (RU HO_296001.out))) (Kd.R_lt (RU HO_303000.out))) (Kd.R_lt (RU HO_303001.out))) (Kd.R_lt (RU HO_310000.out))) (Kd.R_lt (RU HO_310001.out))) (Kd.R_lt (RU HO_318000.out))) (Kd.R_lt (RU HO_318001.out))) (Kd.R_lt (RU HO346.out))) (Kd.R_lt (RU HO349.out))) (below_size (bS6 HB.out GE272.out GE273.out GE295.out GE302.out GE309.out GE317.out)))
                replace HO_296000 := Aside0.mk (Kd.R_mono (Kd.R_told (Kd.R_told (Kd.R_old (RU HO_296000.out) hb) (Kd.R_base ho0)) (Kd.R_base ho1)) (fun _ h_ => h_.1))
                replace HO_296001 := Aside0.mk (Kd.R_mono (Kd.R_told (Kd.R_told (Kd.R_old (RU HO_296001.out) hb) (Kd.R_base ho0)) (Kd.R_base ho1)) (fun _ h_ => h_.1))
                replace HO_303000 := Aside0.mk (Kd.R_mono (Kd.R_told (Kd.R_told (Kd.R_old (RU HO_303000.out) hb) (Kd.R_base ho0)) (Kd.R_base ho1)) (fun _ h_ => h_.1))
                replace HO_303001 := Aside0.mk (Kd.R_mono (Kd.R_told (Kd.R_told (Kd.R_old (RU HO_303001.out) hb) (Kd.R_base ho0)) (Kd.R_base ho1)) (fun _ h_ => h_.1))
                replace HO_310000 := Aside0.mk (Kd.R_mono (Kd.R_told (Kd.R_told (Kd.R_old (RU HO_310000.out) hb) (Kd.R_base ho0)) (Kd.R_base ho1)) (fun _ h_ => h_.1))
                replace HO_310001 := Aside0.mk (Kd.R_mono (Kd.R_told (Kd.R_told (Kd.R_old (RU HO_310001.out) hb) (Kd.R_base ho0)) (Kd.R_base ho1)) (fun _ h_ => h_.1))
                replace HO_318000 := Aside0.mk (Kd.R_mono (Kd.R_told (Kd.R_told (Kd.R_old (RU HO_318000.out) hb) (Kd.R_base ho0)) (Kd.R_base ho1)) (fun _ h_ => h_.1))
                replace HO_318001 := Aside0.mk (Kd.R_mono (Kd.R_told (Kd.R_told (Kd.R_old (RU HO_318001.out) hb) (Kd.R_base ho0)) (Kd.R_base ho1)) (fun _ h_ => h_.1))
                replace HO346 := Aside0.mk (Kd.R_mono (Kd.R_told (Kd.R_told (Kd.R_old (RU HO346.out) hb) (Kd.R_base ho0)) (Kd.R_base ho1)) (fun _ h_ => h_.1))
                replace HO349 := Aside0.mk (Kd.R_mono (Kd.R_told (Kd.R_told (Kd.R_old (RU HO349.out) hb) (Kd.R_base ho0)) (Kd.R_base ho1)) (fun _ h_ => h_.1))
                replace BK272 := Aside0.mk (blk_below (g := gb272) (o := .cells #[.slice A0_0 l0_0.length c0_0, .slice A0_1 l0_1.length c0_1] 24 (0, 0)) (kU BK272.out) hb)
                replace BK273 := Aside0.mk (blk_below (g := gb273) (o := .cells #[.slice A1_0 l1_0.length c1_0, .slice A1_1 l1_1.length c1_1] 24 (0, 0)) (kU BK273.out) hb)
                replace BK295 := Aside0.mk (blk_below (g := gb295) (o := .cells #[.slice Ao43 t288.length co43, .slice Ao45 t291.length co45] 26 (0, 0)) (kU BK295.out) hb)
                replace BK302 := Aside0.mk (blk_below (g := gb302) (o := .cells #[.slice Ao51 t334.length co51, .slice Ao56 t335.length co56] 26 (0, 0)) (kU BK302.out) hb)
                replace BK309 := Aside0.mk (blk_below (g := gb309) (o := .cells #[.slice Ao61 t337.length co61, .slice Ao67 t338.length co67] 26 (0, 0)) (kU BK309.out) hb)
                replace BK317 := Aside0.mk (blk_below (g := gb317) (o := .cells #[.slice Ao71 t310.length co71, .slice Ao78 t313.length co78] 26 (0, 0)) (kU BK317.out) hb)
                replace HB := Aside0.mk (below_step (bS6 HB.out GE272.out GE273.out GE295.out GE302.out GE309.out GE317.out) hb)
                (try clear hb)
                (try clear hb2)
                (try clear hk)
                (try clear hi)
                (try clear ho0)
                (try clear ho1)
                obtain ⟨Ao162, co162, eo162⟩ := Kd.R_slice HO346.out
                (first | subst eo162 | (injection eo162 with f1_ f2_ f3_; have f4_ := f1_.symm; have f5_ := f3_.symm; clear f1_ f2_ f3_; subst f4_; subst f5_))
                obtain ⟨Ao163, co163, eo163⟩ := Kd.R_slice HO349.out
                (first | subst eo163 | (injection eo163 with f1_ f2_ f3_; have f4_ := f1_.symm; have f5_ := f3_.symm; clear f1_ f2_ f3_; subst f4_; subst f5_))
                obtain ⟨Ao164, co164, eo164⟩ := Kd.R_slice HO352.out
                (first | subst eo164 | (injection eo164 with f1_ f2_ f3_; have f4_ := f1_.symm; have f5_ := f3_.symm; clear f1_ f2_ f3_; subst f4_; subst f5_))
                obtain ⟨Ao165, co165, eo165⟩ := Kd.R_slice HO355.out
                (first | subst eo165 | (injection eo165 with f1_ f2_ f3_; have f4_ := f1_.symm; have f5_ := f3_.symm; clear f1_ f2_ f3_; subst f4_; subst f5_))
                refine hK.out _ _ ⟨(blk_cell BK272.out 0).trans rfl, (blk_cell BK272.out 1).trans rfl, (blk_cell BK273.out 0).trans rfl, (blk_cell BK273.out 1).trans rfl⟩ (fun hHeld => ?_)
                clear hK K
                refine norm_ (a' := ?_) ?_ ?_
                rotate_left
                ·
                 show Act.put _ (some 98) _ = _
                 simp only [Act.put, List.setIfInBounds_toArray, List.set_cons_zero, List.set_cons_succ, i64_w, i32_w]
                 rfl
                refine two_ (i := 4) (j := 8) (Ni := some 99) (Nj := some 15) #[true, true, true, true, true, false, false, false, false, false, false] #[true, true, true, true, false, false, false, false, true, false, false] rfl rfl rfl rfl (two_of HT_.out (by kernel_rfl)) (by decide) (by decide) (fun K hK => ?_) (fun K hK => ?_)
                ·
                 skip
                 refine goes_ Try.func44 (by kernel_rfl) rfl #[.agg #[.slice Ao162 t344.length co162, .slice Ao163 t347.length co163], .agg #[.slice Ao164 t350.length co164, .slice Ao165 t353.length co165]] (by rfl) rfl rfl (by (try simp only [List.map_toArray, List.map_cons, List.map_nil]); first | done | rfl | (simp only [List.length_drop, List.length_take]; rfl)) ?_
                 with_reducible refine (impl_Copy.calls kj101 _ _ t344 _ _ t347 _ _ t350 _ _ t353 t356 t359 t362 _ ?side1 ?side2 ?side3 ?side4 ?side5 ?side6 ?side7 ?side8 A148.out).mono ?_
                 (case side1 => exact cU (Kd.R_reads' HO346.out).2.2)
                 (case side2 => exact (Kd.R_reads' HO346.out).2.1)
                 (case side3 => exact cU (Kd.R_reads' HO349.out).2.2)
                 (case side4 => exact (Kd.R_reads' HO349.out).2.1)
                 (case side5 => exact cU (Kd.R_reads' HO352.out).2.2)
                 (case side6 => exact (Kd.R_reads' HO352.out).2.1)
                 (case side7 => exact cU (Kd.R_reads' HO355.out).2.2)
                 (case side8 => exact (Kd.R_reads' HO355.out).2.1)
                 rintro e w166 ⟨v357, v360, rfl, ho0, ho1, hb⟩
                 refine ⟨_, rfl, ?_⟩
                 have HO358 := Aside0.mk (Kd.R_lower (Kd.R_new' (Kd.R_new' (Kd.R_new' (Kd.R_new' (Kd.R_new' (Kd.R_new' (Kd.R_new' (Kd.R_new' (Kd.R_new' (Kd.R_new' (Kd.R_new' (Kd.R_new' ho0 (Kd.R_lt (RU HO_296000.out))) (Kd.R_lt (RU HO_296001.out))) (Kd.R_lt (RU HO_303000.out))) (Kd.R_lt (RU HO_303001.out))) (Kd.R_lt (RU HO_310000.out))) (Kd.R_lt (RU HO_310001.out))) (Kd.R_lt (RU HO_318000.out))) (Kd.R_lt (RU HO_318001.out))) (Kd.R_lt (RU HO346.out))) (Kd.R_lt (RU HO349.out))) (Kd.R_lt (RU HO352.out))) (Kd.R_lt (RU HO355.out))) (below_size (bS6 HB.out GE272.out GE273.out GE295.out GE302.out GE309.out GE317.out)))
                 have HO361 := Aside0.mk (Kd.R_lower (Kd.R_new' (Kd.R_new' (Kd.R_new' (Kd.R_new' (Kd.R_new' (Kd.R_new' (Kd.R_new' (Kd.R_new' (Kd.R_new' (Kd.R_new' (Kd.R_new' (Kd.R_new' ho1 (Kd.R_lt (RU HO_296000.out))) (Kd.R_lt (RU HO_296001.out))) (Kd.R_lt (RU HO_303000.out))) (Kd.R_lt (RU HO_303001.out))) (Kd.R_lt (RU HO_310000.out))) (Kd.R_lt (RU HO_310001.out))) (Kd.R_lt (RU HO_318000.out))) (Kd.R_lt (RU HO_318001.out))) (Kd.R_lt (RU HO346.out))) (Kd.R_lt (RU HO349.out))) (Kd.R_lt (RU HO352.out))) (Kd.R_lt (RU HO355.out))) (below_size (bS6 HB.out GE272.out GE273.out GE295.out GE302.out GE309.out GE317.out)))
                 replace HO_296000 := Aside0.mk (Kd.R_mono (Kd.R_told (Kd.R_told (Kd.R_old (RU HO_296000.out) hb) (Kd.R_base ho0)) (Kd.R_base ho1)) (fun _ h_ => h_.1))
                 replace HO_296001 := Aside0.mk (Kd.R_mono (Kd.R_told (Kd.R_told (Kd.R_old (RU HO_296001.out) hb) (Kd.R_base ho0)) (Kd.R_base ho1)) (fun _ h_ => h_.1))
                 replace HO_303000 := Aside0.mk (Kd.R_mono (Kd.R_told (Kd.R_told (Kd.R_old (RU HO_303000.out) hb) (Kd.R_base ho0)) (Kd.R_base ho1)) (fun _ h_ => h_.1))
                 replace HO_303001 := Aside0.mk (Kd.R_mono (Kd.R_told (Kd.R_told (Kd.R_old (RU HO_303001.out) hb) (Kd.R_base ho0)) (Kd.R_base ho1)) (fun _ h_ => h_.1))
                 replace HO_310000 := Aside0.mk (Kd.R_mono (Kd.R_told (Kd.R_told (Kd.R_old (RU HO_310000.out) hb) (Kd.R_base ho0)) (Kd.R_base ho1)) (fun _ h_ => h_.1))
                 replace HO_310001 := Aside0.mk (Kd.R_mono (Kd.R_told (Kd.R_told (Kd.R_old (RU HO_310001.out) hb) (Kd.R_base ho0)) (Kd.R_base ho1)) (fun _ h_ => h_.1))
                 replace HO_318000 := Aside0.mk (Kd.R_mono (Kd.R_told (Kd.R_told (Kd.R_old (RU HO_318000.out) hb) (Kd.R_base ho0)) (Kd.R_base ho1)) (fun _ h_ => h_.1))
                 replace HO_318001 := Aside0.mk (Kd.R_mono (Kd.R_told (Kd.R_told (Kd.R_old (RU HO_318001.out) hb) (Kd.R_base ho0)) (Kd.R_base ho1)) (fun _ h_ => h_.1))
                 replace HO346 := Aside0.mk (Kd.R_mono (Kd.R_told (Kd.R_told (Kd.R_old (RU HO346.out) hb) (Kd.R_base ho0)) (Kd.R_base ho1)) (fun _ h_ => h_.1))
                 replace HO349 := Aside0.mk (Kd.R_mono (Kd.R_told (Kd.R_told (Kd.R_old (RU HO349.out) hb) (Kd.R_base ho0)) (Kd.R_base ho1)) (fun _ h_ => h_.1))
                 replace HO352 := Aside0.mk (Kd.R_mono (Kd.R_told (Kd.R_told (Kd.R_old (RU HO352.out) hb) (Kd.R_base ho0)) (Kd.R_base ho1)) (fun _ h_ => h_.1))
                 replace HO355 := Aside0.mk (Kd.R_mono (Kd.R_told (Kd.R_told (Kd.R_old (RU HO355.out) hb) (Kd.R_base ho0)) (Kd.R_base ho1)) (fun _ h_ => h_.1))
                 replace BK272 := Aside0.mk (blk_below (g := gb272) (o := .cells #[.slice A0_0 l0_0.length c0_0, .slice A0_1 l0_1.length c0_1] 24 (0, 0)) (kU BK272.out) hb)
                 replace BK273 := Aside0.mk (blk_below (g := gb273) (o := .cells #[.slice A1_0 l1_0.length c1_0, .slice A1_1 l1_1.length c1_1] 24 (0, 0)) (kU BK273.out) hb)
                 replace BK295 := Aside0.mk (blk_below (g := gb295) (o := .cells #[.slice Ao43 t288.length co43, .slice Ao45 t291.length co45] 26 (0, 0)) (kU BK295.out) hb)
                 replace BK302 := Aside0.mk (blk_below (g := gb302) (o := .cells #[.slice Ao51 t334.length co51, .slice Ao56 t335.length co56] 26 (0, 0)) (kU BK302.out) hb)
                 replace BK309 := Aside0.mk (blk_below (g := gb309) (o := .cells #[.slice Ao61 t337.length co61, .slice Ao67 t338.length co67] 26 (0, 0)) (kU BK309.out) hb)
                 replace BK317 := Aside0.mk (blk_below (g := gb317) (o := .cells #[.slice Ao71 t310.length co71, .slice Ao78 t313.length co78] 26 (0, 0)) (kU BK317.out) hb)
                 replace HB := Aside0.mk (below_step (bS6 HB.out GE272.out GE273.out GE295.out GE302.out GE309.out GE317.out) hb)
                 (try clear hb)
                 (try clear hb2)
                 (try clear hk)
                 (try clear hi)
                 (try clear ho0)
                 (try clear ho1)
                 refine hK.out _ _ ⟨(blk_cell BK272.out 0).trans rfl, (blk_cell BK272.out 1).trans rfl, (blk_cell BK273.out 0).trans rfl, (blk_cell BK273.out 1).trans rfl⟩ (fun hHeld => ?_)
                 clear hK K
                 refine norm_ (a' := ?_) ?_ ?_
                 rotate_left
                 ·
                  show Act.put _ (some 99) _ = _
                  simp only [Act.put, List.setIfInBounds_toArray, List.set_cons_zero, List.set_cons_succ, i64_w, i32_w]
                  rfl
                 refine pure_ (i := 5) (N := some 94) (v := ?_) (a' := ?_) #[true, true, true, true, true, true, false, false, false, false, false] rfl rfl (any_of HT_.out (by kernel_rfl)) (fun _ _ _ h => h) (Or.inl ⟨by rfl, ?_⟩) ?_ ?_
                 rotate_left
                 ·
                  intro w'
                  go_simp
                  with_reducible rfl
                 rotate_left
                 ·
                  simp only [Act.put, List.setIfInBounds_toArray, List.set_cons_zero, List.set_cons_succ, i64_w, i32_w]
                  rfl
                 refine pure_ (i := 6) (N := some 100) (v := ?_) (a' := ?_) #[true, true, true, true, true, true, true, false, false, false, false] rfl rfl (any_of HT_.out (by kernel_rfl)) (fun _ _ _ h => h) (Or.inl ⟨by rfl, ?_⟩) ?_ ?_
                 rotate_left
                 ·
                  intro w'
                  go_simp
                  with_reducible rfl
                 rotate_left
                 ·
                  simp only [Act.put, List.setIfInBounds_toArray, List.set_cons_zero, List.set_cons_succ, i64_w, i32_w]
                  rfl
                 refine pure_ (i := 7) (N := some 101) (v := ?_) (a' := ?_) #[true, true, true, true, true, true, true, true, false, false, false] rfl rfl (any_of HT_.out (by kernel_rfl)) (fun _ _ _ h => h) (Or.inl ⟨by rfl, ?_⟩) ?_ ?_
                 rotate_left
                 ·
                  intro w'
                  go_simp
                  with_reducible rfl
                 rotate_left
                 ·
                  simp only [Act.put, List.setIfInBounds_toArray, List.set_cons_zero, List.set_cons_succ, i64_w, i32_w]
                  rfl
                 refine one_ (i := 8) (N := some 15) #[true, true, true, true, true, true, true, true, true, false, false] rfl rfl (one_of HT_.out (by kernel_rfl)) (by decide) (fun K hK => ?_)
                 refine box_step ?hg (N := 15) ?hd (cs := #[.slice none 0 0, .slice none 0 0]) (t := 26) ?hr ?_; (case hd => rfl); (case hg => rfl); (case hr => first | (go_simp; done) | (go_simp; rfl))
                 intro gb363 hg w167 hbox hb
                 replace HO_296000 := Aside0.mk (Kd.R_below (RU HO_296000.out) hb)
                 replace HO_296001 := Aside0.mk (Kd.R_below (RU HO_296001.out) hb)
                 replace HO_303000 := Aside0.mk (Kd.R_below (RU HO_303000.out) hb)
                 replace HO_303001 := Aside0.mk (Kd.R_below (RU HO_303001.out) hb)
                 replace HO_310000 := Aside0.mk (Kd.R_below (RU HO_310000.out) hb)
                 replace HO_310001 := Aside0.mk (Kd.R_below (RU HO_310001.out) hb)
                 replace HO_318000 := Aside0.mk (Kd.R_below (RU HO_318000.out) hb)
                 replace HO_318001 := Aside0.mk (Kd.R_below (RU HO_318001.out) hb)
                 replace HO346 := Aside0.mk (Kd.R_below (RU HO346.out) hb)
                 replace HO349 := Aside0.mk (Kd.R_below (RU HO349.out) hb)
                 replace HO352 := Aside0.mk (Kd.R_below (RU HO352.out) hb)
                 replace HO355 := Aside0.mk (Kd.R_below (RU HO355.out) hb)
                 replace HO358 := Aside0.mk (Kd.R_below (RU HO358.out) hb)
                 replace HO361 := Aside0.mk (Kd.R_below (RU HO361.out) hb)
                 have BK363 := Aside0.mk (hbox)
                 have GW363 := Aside0.mk ((by rw [hg]; exact (below_size (bS6 HB.out GE272.out GE273.out GE295.out GE302.out GE309.out GE317.out)) : w.heap.size ≤ gb363))
                 have GE363 := Aside0.mk ((by rw [hg]; exact (below_size (bS6 HB.out GE272.out GE273.out GE295.out GE302.out GE309.out GE317.out)) : w.heap.size ≤ gb363))
                 replace HB := Aside0.mk (below_step (bS6 HB.out GE272.out GE273.out GE295.out GE302.out GE309.out GE317.out) hb)
                 have NB272_363 := Aside0.mk ((by rw [hg]; exact Nat.ne_of_lt (blk_lt (g := gb272) (o := .cells #[.slice A0_0 l0_0.length c0_0, .slice A0_1 l0_1.length c0_1] 24 (0, 0)) (kU BK272.out)) : gb272 ≠ gb363))
                 have NB363_272 := Aside0.mk ((by rw [hg]; exact Nat.ne_of_gt (blk_lt (g := gb272) (o := .cells #[.slice A0_0 l0_0.length c0_0, .slice A0_1 l0_1.length c0_1] 24 (0, 0)) (kU BK272.out)) : gb363 ≠ gb272))
                 replace BK272 := Aside0.mk (blk_below (g := gb272) (o := .cells #[.slice A0_0 l0_0.length c0_0, .slice A0_1 l0_1.length c0_1] 24 (0, 0)) (kU BK272.out) hb)
                 have NB273_363 := Aside0.mk ((by rw [hg]; exact Nat.ne_of_lt (blk_lt (g := gb273) (o := .cells #[.slice A1_0 l1_0.length c1_0, .slice A1_1 l1_1.length c1_1] 24 (0, 0)) (kU BK273.out)) : gb273 ≠ gb363))
                 have NB363_273 := Aside0.mk ((by rw [hg]; exact Nat.ne_of_gt (blk_lt (g := gb273) (o := .cells #[.slice A1_0 l1_0.length c1_0, .slice A1_1 l1_1.length c1_1] 24 (0, 0)) (kU BK273.out)) : gb363 ≠ gb273))
                 replace BK273 := Aside0.mk (blk_below (g := gb273) (o := .cells #[.slice A1_0 l1_0.length c1_0, .slice A1_1 l1_1.length c1_1] 24 (0, 0)) (kU BK273.out) hb)
                 have NB295_363 := Aside0.mk ((by rw [hg]; exact Nat.ne_of_lt (blk_lt (g := gb295) (o := .cells #[.slice Ao43 t288.length co43, .slice Ao45 t291.length co45] 26 (0, 0)) (kU BK295.out)) : gb295 ≠ gb363))
                 have NB363_295 := Aside0.mk ((by rw [hg]; exact Nat.ne_of_gt (blk_lt (g := gb295) (o := .cells #[.slice Ao43 t288.length co43, .slice Ao45 t291.length co45] 26 (0, 0)) (kU BK295.out)) : gb363 ≠ gb295))
                 replace BK295 := Aside0.mk (blk_below (g := gb295) (o := .cells #[.slice Ao43 t288.length co43, .slice Ao45 t291.length co45] 26 (0, 0)) (kU BK295.out) hb)
                 have NB302_363 := Aside0.mk ((by rw [hg]; exact Nat.ne_of_lt (blk_lt (g := gb302) (o := .cells #[.slice Ao51 t334.length co51, .slice Ao56 t335.length co56] 26 (0, 0)) (kU BK302.out)) : gb302 ≠ gb363))
                 have NB363_302 := Aside0.mk ((by rw [hg]; exact Nat.ne_of_gt (blk_lt (g := gb302) (o := .cells #[.slice Ao51 t334.length co51, .slice Ao56 t335.length co56] 26 (0, 0)) (kU BK302.out)) : gb363 ≠ gb302))
                 replace BK302 := Aside0.mk (blk_below (g := gb302) (o := .cells #[.slice Ao51 t334.length co51, .slice Ao56 t335.length co56] 26 (0, 0)) (kU BK302.out) hb)
                 have NB309_363 := Aside0.mk ((by rw [hg]; exact Nat.ne_of_lt (blk_lt (g := gb309) (o := .cells #[.slice Ao61 t337.length co61, .slice Ao67 t338.length co67] 26 (0, 0)) (kU BK309.out)) : gb309 ≠ gb363))
                 have NB363_309 := Aside0.mk ((by rw [hg]; exact Nat.ne_of_gt (blk_lt (g := gb309) (o := .cells #[.slice Ao61 t337.length co61, .slice Ao67 t338.length co67] 26 (0, 0)) (kU BK309.out)) : gb363 ≠ gb309))
                 replace BK309 := Aside0.mk (blk_below (g := gb309) (o := .cells #[.slice Ao61 t337.length co61, .slice Ao67 t338.length co67] 26 (0, 0)) (kU BK309.out) hb)
                 have NB317_363 := Aside0.mk ((by rw [hg]; exact Nat.ne_of_lt (blk_lt (g := gb317) (o := .cells #[.slice Ao71 t310.length co71, .slice Ao78 t313.length co78] 26 (0, 0)) (kU BK317.out)) : gb317 ≠ gb363))
                 have NB363_317 := Aside0.mk ((by rw [hg]; exact Nat.ne_of_gt (blk_lt (g := gb317) (o := .cells #[.slice Ao71 t310.length co71, .slice Ao78 t313.length co78] 26 (0, 0)) (kU BK317.out)) : gb363 ≠ gb317))
                 replace BK317 := Aside0.mk (blk_below (g := gb317) (o := .cells #[.slice Ao71 t310.length co71, .slice Ao78 t313.length co78] 26 (0, 0)) (kU BK317.out) hb)
                 clear hb hbox hg
                 refine hK.out _ _ ⟨(blk_cell BK272.out 0).trans rfl, (blk_cell BK272.out 1).trans rfl, (blk_cell BK273.out 0).trans rfl, (blk_cell BK273.out 1).trans rfl⟩ (fun hHeld => ?_)
                 clear hK K
                 refine norm_ (a' := ?_) ?_ ?_
                 rotate_left
                 ·
                  show Act.put _ (some 15) _ = _
                  simp only [Act.put, List.setIfInBounds_toArray, List.set_cons_zero, List.set_cons_succ, i64_w, i32_w]
                  rfl
                 exact norm_ (by simp only [putAll, Act.put, List.setIfInBounds_toArray, List.set_cons_zero, List.set_cons_succ]) (hCont (.slice Ao162 t344.length co162, .slice Ao163 t347.length co163, .slice Ao164 t350.length co164, .slice Ao165 t353.length co165, v357, v360, gb363) _ ⟨hHeld, (by (with_reducible repeat (first | apply Kd.R_alloc | apply Kd.R_drewN | apply Kd.R_drew)); exact Kd.R_mono HO346.out (fun _ hk => ⟨hk.1.1.1.1.1.1.1.1.1.1.1.1, ⟨hk.1.1.1.2, ⟨hk.1.1.2, ⟨hk.1.2, ⟨hk.2, ⟨hk.1.1.1.1.1.1.1.1.1.1.1.2, ⟨hk.1.1.1.1.1.1.1.1.1.1.2, ⟨hk.1.1.1.1.1.1.1.1.1.2, ⟨hk.1.1.1.1.1.1.1.1.2, ⟨hk.1.1.1.1.1.1.1.2, ⟨hk.1.1.1.1.1.1.2, ⟨hk.1.1.1.1.1.2, hk.1.1.1.1.2⟩⟩⟩⟩⟩⟩⟩⟩⟩⟩⟩⟩)), (by (with_reducible repeat (first | apply Kd.R_alloc | apply Kd.R_drewN | apply Kd.R_drew)); exact Kd.R_mono HO349.out (fun _ hk => ⟨hk.1.1.1.1.1.1.1.1.1.1.1.1, ⟨hk.1.1.1.2, ⟨hk.1.1.2, ⟨hk.1.2, ⟨hk.2, ⟨hk.1.1.1.1.1.1.1.1.1.1.1.2, ⟨hk.1.1.1.1.1.1.1.1.1.1.2, ⟨hk.1.1.1.1.1.1.1.1.1.2, ⟨hk.1.1.1.1.1.1.1.1.2, ⟨hk.1.1.1.1.1.1.1.2, ⟨hk.1.1.1.1.1.1.2, ⟨hk.1.1.1.1.1.2, hk.1.1.1.1.2⟩⟩⟩⟩⟩⟩⟩⟩⟩⟩⟩⟩)), (by (with_reducible repeat (first | apply Kd.R_alloc | apply Kd.R_drewN | apply Kd.R_drew)); exact Kd.R_mono HO352.out (fun _ hk => ⟨hk.1.1.1.2, ⟨hk.1.1.2, ⟨hk.1.1.1.1.1.1.1.1.1.1.1.1, ⟨hk.1.2, ⟨hk.2, ⟨hk.1.1.1.1.1.1.1.1.1.1.1.2, ⟨hk.1.1.1.1.1.1.1.1.1.1.2, ⟨hk.1.1.1.1.1.1.1.1.1.2, ⟨hk.1.1.1.1.1.1.1.1.2, ⟨hk.1.1.1.1.1.1.1.2, ⟨hk.1.1.1.1.1.1.2, ⟨hk.1.1.1.1.1.2, hk.1.1.1.1.2⟩⟩⟩⟩⟩⟩⟩⟩⟩⟩⟩⟩)), (by (with_reducible repeat (first | apply Kd.R_alloc | apply Kd.R_drewN | apply Kd.R_drew)); exact Kd.R_mono HO355.out (fun _ hk => ⟨hk.1.1.1.2, ⟨hk.1.1.2, ⟨hk.1.1.1.1.1.1.1.1.1.1.1.1, ⟨hk.1.2, ⟨hk.2, ⟨hk.1.1.1.1.1.1.1.1.1.1.1.2, ⟨hk.1.1.1.1.1.1.1.1.1.1.2, ⟨hk.1.1.1.1.1.1.1.1.1.2, ⟨hk.1.1.1.1.1.1.1.1.2, ⟨hk.1.1.1.1.1.1.1.2, ⟨hk.1.1.1.1.1.1.2, ⟨hk.1.1.1.1.1.2, hk.1.1.1.1.2⟩⟩⟩⟩⟩⟩⟩⟩⟩⟩⟩⟩)), (by (with_reducible repeat (first | apply Kd.R_alloc | apply Kd.R_drewN | apply Kd.R_drew)); exact Kd.R_mono HO358.out (fun _ hk => ⟨hk.1.1.1.2, ⟨hk.1.1.2, ⟨hk.1.2, ⟨hk.2, ⟨hk.1.1.1.1.1.1.1.1.1.1.1.1, ⟨hk.1.1.1.1.1.1.1.1.1.1.1.2, ⟨hk.1.1.1.1.1.1.1.1.1.1.2, ⟨hk.1.1.1.1.1.1.1.1.1.2, ⟨hk.1.1.1.1.1.1.1.1.2, ⟨hk.1.1.1.1.1.1.1.2, ⟨hk.1.1.1.1.1.1.2, ⟨hk.1.1.1.1.1.2, hk.1.1.1.1.2⟩⟩⟩⟩⟩⟩⟩⟩⟩⟩⟩⟩)), (by (with_reducible repeat (first | apply Kd.R_alloc | apply Kd.R_drewN | apply Kd.R_drew)); exact Kd.R_mono HO361.out (fun _ hk => ⟨hk.1.1.1.2, ⟨hk.1.1.2, ⟨hk.1.2, ⟨hk.2, ⟨hk.1.1.1.1.1.1.1.1.1.1.1.1, ⟨hk.1.1.1.1.1.1.1.1.1.1.1.2, ⟨hk.1.1.1.1.1.1.1.1.1.1.2, ⟨hk.1.1.1.1.1.1.1.1.1.2, ⟨hk.1.1.1.1.1.1.1.1.2, ⟨hk.1.1.1.1.1.1.1.2, ⟨hk.1.1.1.1.1.1.2, ⟨hk.1.1.1.1.1.2, hk.1.1.1.1.2⟩⟩⟩⟩⟩⟩⟩⟩⟩⟩⟩⟩)), (by (with_reducible repeat (first | apply Kd.R_alloc | apply Kd.R_drewN | apply Kd.R_drew)); exact Kd.R_mono HO_296000.out (fun _ hk => ⟨hk.1.1.1.1.1.2, ⟨hk.1.1.1.1.2, ⟨hk.1.1.1.2, ⟨hk.1.1.2, ⟨hk.1.2, ⟨hk.2, ⟨hk.1.1.1.1.1.1.1, ⟨hk.1.1.1.1.1.1.2.1, ⟨hk.1.1.1.1.1.1.2.2.1, ⟨hk.1.1.1.1.1.1.2.2.2.1, ⟨hk.1.1.1.1.1.1.2.2.2.2.1, ⟨hk.1.1.1.1.1.1.2.2.2.2.2.1, hk.1.1.1.1.1.1.2.2.2.2.2.2⟩⟩⟩⟩⟩⟩⟩⟩⟩⟩⟩⟩)), (by (with_reducible repeat (first | apply Kd.R_alloc | apply Kd.R_drewN | apply Kd.R_drew)); exact Kd.R_mono HO_296001.out (fun _ hk => ⟨hk.1.1.1.1.1.2, ⟨hk.1.1.1.1.2, ⟨hk.1.1.1.2, ⟨hk.1.1.2, ⟨hk.1.2, ⟨hk.2, ⟨hk.1.1.1.1.1.1.1, ⟨hk.1.1.1.1.1.1.2.1, ⟨hk.1.1.1.1.1.1.2.2.1, ⟨hk.1.1.1.1.1.1.2.2.2.1, ⟨hk.1.1.1.1.1.1.2.2.2.2.1, ⟨hk.1.1.1.1.1.1.2.2.2.2.2.1, hk.1.1.1.1.1.1.2.2.2.2.2.2⟩⟩⟩⟩⟩⟩⟩⟩⟩⟩⟩⟩)), (by (with_reducible repeat (first | apply Kd.R_alloc | apply Kd.R_drewN | apply Kd.R_drew)); exact Kd.R_mono HO_303000.out (fun _ hk => ⟨hk.1.1.1.1.1.2, ⟨hk.1.1.1.1.2, ⟨hk.1.1.1.2, ⟨hk.1.1.2, ⟨hk.1.2, ⟨hk.2, ⟨hk.1.1.1.1.1.1.1, ⟨hk.1.1.1.1.1.1.2.1, ⟨hk.1.1.1.1.1.1.2.2.1, ⟨hk.1.1.1.1.1.1.2.2.2.1, ⟨hk.1.1.1.1.1.1.2.2.2.2.1, ⟨hk.1.1.1.1.1.1.2.2.2.2.2.1, hk.1.1.1.1.1.1.2.2.2.2.2.2⟩⟩⟩⟩⟩⟩⟩⟩⟩⟩⟩⟩)), (by (with_reducible repeat (first | apply Kd.R_alloc | apply Kd.R_drewN | apply Kd.R_drew)); exact Kd.R_mono HO_303001.out (fun _ hk => ⟨hk.1.1.1.1.1.2, ⟨hk.1.1.1.1.2, ⟨hk.1.1.1.2, ⟨hk.1.1.2, ⟨hk.1.2, ⟨hk.2, ⟨hk.1.1.1.1.1.1.1, ⟨hk.1.1.1.1.1.1.2.1, ⟨hk.1.1.1.1.1.1.2.2.1, ⟨hk.1.1.1.1.1.1.2.2.2.1, ⟨hk.1.1.1.1.1.1.2.2.2.2.1, ⟨hk.1.1.1.1.1.1.2.2.2.2.2.1, hk.1.1.1.1.1.1.2.2.2.2.2.2⟩⟩⟩⟩⟩⟩⟩⟩⟩⟩⟩⟩)), (by (with_reducible repeat (first | apply Kd.R_alloc | apply Kd.R_drewN | apply Kd.R_drew)); exact Kd.R_mono HO_310000.out (fun _ hk => ⟨hk.1.1.1.1.1.2, ⟨hk.1.1.1.1.2, ⟨hk.1.1.1.2, ⟨hk.1.1.2, ⟨hk.1.2, ⟨hk.2, ⟨hk.1.1.1.1.1.1.1, ⟨hk.1.1.1.1.1.1.2.1, ⟨hk.1.1.1.1.1.1.2.2.1, ⟨hk.1.1.1.1.1.1.2.2.2.1, ⟨hk.1.1.1.1.1.1.2.2.2.2.1, ⟨hk.1.1.1.1.1.1.2.2.2.2.2.1, hk.1.1.1.1.1.1.2.2.2.2.2.2⟩⟩⟩⟩⟩⟩⟩⟩⟩⟩⟩⟩)), (by (with_reducible repeat (first | apply Kd.R_alloc | apply Kd.R_drewN | apply Kd.R_drew)); exact Kd.R_mono HO_310001.out (fun _ hk => ⟨hk.1.1.1.1.1.2, ⟨hk.1.1.1.1.2, ⟨hk.1.1.1.2, ⟨hk.1.1.2, ⟨hk.1.2, ⟨hk.2, ⟨hk.1.1.1.1.1.1.1, ⟨hk.1.1.1.1.1.1.2.1, ⟨hk.1.1.1.1.1.1.2.2.1, ⟨hk.1.1.1.1.1.1.2.2.2.1, ⟨hk.1.1.1.1.1.1.2.2.2.2.1, ⟨hk.1.1.1.1.1.1.2.2.2.2.2.1, hk.1.1.1.1.1.1.2.2.2.2.2.2⟩⟩⟩⟩⟩⟩⟩⟩⟩⟩⟩⟩)), (by (with_reducible repeat (first | apply Kd.R_alloc | apply Kd.R_drewN | apply Kd.R_drew)); exact Kd.R_mono HO_318000.out (fun _ hk => ⟨hk.1.1.1.1.1.2, ⟨hk.1.1.1.1.2, ⟨hk.1.1.1.2, ⟨hk.1.1.2, ⟨hk.1.2, ⟨hk.2, ⟨hk.1.1.1.1.1.1.1, ⟨hk.1.1.1.1.1.1.2.1, ⟨hk.1.1.1.1.1.1.2.2.1, ⟨hk.1.1.1.1.1.1.2.2.2.1, ⟨hk.1.1.1.1.1.1.2.2.2.2.1, ⟨hk.1.1.1.1.1.1.2.2.2.2.2.1, hk.1.1.1.1.1.1.2.2.2.2.2.2⟩⟩⟩⟩⟩⟩⟩⟩⟩⟩⟩⟩)), (by (with_reducible repeat (first | apply Kd.R_alloc | apply Kd.R_drewN | apply Kd.R_drew)); exact Kd.R_mono HO_318001.out (fun _ hk => ⟨hk.1.1.1.1.1.2, ⟨hk.1.1.1.1.2, ⟨hk.1.1.1.2, ⟨hk.1.1.2, ⟨hk.1.2, ⟨hk.2, ⟨hk.1.1.1.1.1.1.1, ⟨hk.1.1.1.1.1.1.2.1, ⟨hk.1.1.1.1.1.1.2.2.1, ⟨hk.1.1.1.1.1.1.2.2.2.1, ⟨hk.1.1.1.1.1.1.2.2.2.2.1, ⟨hk.1.1.1.1.1.1.2.2.2.2.2.1, hk.1.1.1.1.1.1.2.2.2.2.2.2⟩⟩⟩⟩⟩⟩⟩⟩⟩⟩⟩⟩)), (kU BK272.out), (kU BK273.out), (kU BK295.out), (kU BK302.out), (kU BK309.out), (kU BK317.out), (kU BK363.out), GW363.out, GE363.out, NB272_363.out, NB363_272.out, NB273_363.out, NB363_273.out, NB295_363.out, NB363_295.out, NB302_363.out, NB363_302.out, NB309_363.out, NB363_309.out, NB317_363.out, NB363_317.out, (bS7 HB.out GE272.out GE273.out GE295.out GE302.out GE309.out GE317.out GE363.out)⟩)
                ·
                 skip
                 refine box_step ?hg (N := 15) ?hd (cs := #[.slice none 0 0, .slice none 0 0]) (t := 26) ?hr ?_; (case hd => rfl); (case hg => rfl); (case hr => first | (go_simp; done) | (go_simp; rfl))
                 intro gb363 hg w162 hbox hb
                 replace HO_296000 := Aside0.mk (Kd.R_below (RU HO_296000.out) hb)
                 replace HO_296001 := Aside0.mk (Kd.R_below (RU HO_296001.out) hb)
                 replace HO_303000 := Aside0.mk (Kd.R_below (RU HO_303000.out) hb)
                 replace HO_303001 := Aside0.mk (Kd.R_below (RU HO_303001.out) hb)
                 replace HO_310000 := Aside0.mk (Kd.R_below (RU HO_310000.out) hb)
                 replace HO_310001 := Aside0.mk (Kd.R_below (RU HO_310001.out) hb)
                 replace HO_318000 := Aside0.mk (Kd.R_below (RU HO_318000.out) hb)
                 replace HO_318001 := Aside0.mk (Kd.R_below (RU HO_318001.out) hb)
                 replace HO346 := Aside0.mk (Kd.R_below (RU HO346.out) hb)
                 replace HO349 := Aside0.mk (Kd.R_below (RU HO349.out) hb)
                 replace HO352 := Aside0.mk (Kd.R_below (RU HO352.out) hb)
                 replace HO355 := Aside0.mk (Kd.R_below (RU HO355.out) hb)
                 have BK363 := Aside0.mk (hbox)
                 have GW363 := Aside0.mk ((by rw [hg]; exact (below_size (bS6 HB.out GE272.out GE273.out GE295.out GE302.out GE309.out GE317.out)) : w.heap.size ≤ gb363))
                 have GE363 := Aside0.mk ((by rw [hg]; exact (below_size (bS6 HB.out GE272.out GE273.out GE295.out GE302.out GE309.out GE317.out)) : w.heap.size ≤ gb363))
                 replace HB := Aside0.mk (below_step (bS6 HB.out GE272.out GE273.out GE295.out GE302.out GE309.out GE317.out) hb)
                 have NB272_363 := Aside0.mk ((by rw [hg]; exact Nat.ne_of_lt (blk_lt (g := gb272) (o := .cells #[.slice A0_0 l0_0.length c0_0, .slice A0_1 l0_1.length c0_1] 24 (0, 0)) (kU BK272.out)) : gb272 ≠ gb363))
                 have NB363_272 := Aside0.mk ((by rw [hg]; exact Nat.ne_of_gt (blk_lt (g := gb272) (o := .cells #[.slice A0_0 l0_0.length c0_0, .slice A0_1 l0_1.length c0_1] 24 (0, 0)) (kU BK272.out)) : gb363 ≠ gb272))
                 replace BK272 := Aside0.mk (blk_below (g := gb272) (o := .cells #[.slice A0_0 l0_0.length c0_0, .slice A0_1 l0_1.length c0_1] 24 (0, 0)) (kU BK272.out) hb)
                 have NB273_363 := Aside0.mk ((by rw [hg]; exact Nat.ne_of_lt (blk_lt (g := gb273) (o := .cells #[.slice A1_0 l1_0.length c1_0, .slice A1_1 l1_1.length c1_1] 24 (0, 0)) (kU BK273.out)) : gb273 ≠ gb363))
                 have NB363_273 := Aside0.mk ((by rw [hg]; exact Nat.ne_of_gt (blk_lt (g := gb273) (o := .cells #[.slice A1_0 l1_0.length c1_0, .slice A1_1 l1_1.length c1_1] 24 (0, 0)) (kU BK273.out)) : gb363 ≠ gb273))
                 replace BK273 := Aside0.mk (blk_below (g := gb273) (o := .cells #[.slice A1_0 l1_0.length c1_0, .slice A1_1 l1_1.length c1_1] 24 (0, 0)) (kU BK273.out) hb)
                 have NB295_363 := Aside0.mk ((by rw [hg]; exact Nat.ne_of_lt (blk_lt (g := gb295) (o := .cells #[.slice Ao43 t288.length co43, .slice Ao45 t291.length co45] 26 (0, 0)) (kU BK295.out)) : gb295 ≠ gb363))
                 have NB363_295 := Aside0.mk ((by rw [hg]; exact Nat.ne_of_gt (blk_lt (g := gb295) (o := .cells #[.slice Ao43 t288.length co43, .slice Ao45 t291.length co45] 26 (0, 0)) (kU BK295.out)) : gb363 ≠ gb295))
                 replace BK295 := Aside0.mk (blk_below (g := gb295) (o := .cells #[.slice Ao43 t288.length co43, .slice Ao45 t291.length co45] 26 (0, 0)) (kU BK295.out) hb)
                 have NB302_363 := Aside0.mk ((by rw [hg]; exact Nat.ne_of_lt (blk_lt (g := gb302) (o := .cells #[.slice Ao51 t334.length co51, .slice Ao56 t335.length co56] 26 (0, 0)) (kU BK302.out)) : gb302 ≠ gb363))
                 have NB363_302 := Aside0.mk ((by rw [hg]; exact Nat.ne_of_gt (blk_lt (g := gb302) (o := .cells #[.slice Ao51 t334.length co51, .slice Ao56 t335.length co56] 26 (0, 0)) (kU BK302.out)) : gb363 ≠ gb302))
                 replace BK302 := Aside0.mk (blk_below (g := gb302) (o := .cells #[.slice Ao51 t334.length co51, .slice Ao56 t335.length co56] 26 (0, 0)) (kU BK302.out) hb)
                 have NB309_363 := Aside0.mk ((by rw [hg]; exact Nat.ne_of_lt (blk_lt (g := gb309) (o := .cells #[.slice Ao61 t337.length co61, .slice Ao67 t338.length co67] 26 (0, 0)) (kU BK309.out)) : gb309 ≠ gb363))
                 have NB363_309 := Aside0.mk ((by rw [hg]; exact Nat.ne_of_gt (blk_lt (g := gb309) (o := .cells #[.slice Ao61 t337.length co61, .slice Ao67 t338.length co67] 26 (0, 0)) (kU BK309.out)) : gb363 ≠ gb309))
                 replace BK309 := Aside0.mk (blk_below (g := gb309) (o := .cells #[.slice Ao61 t337.length co61, .slice Ao67 t338.length co67] 26 (0, 0)) (kU BK309.out) hb)
                 have NB317_363 := Aside0.mk ((by rw [hg]; exact Nat.ne_of_lt (blk_lt (g := gb317) (o := .cells #[.slice Ao71 t310.length co71, .slice Ao78 t313.length co78] 26 (0, 0)) (kU BK317.out)) : gb317 ≠ gb363))
                 have NB363_317 := Aside0.mk ((by rw [hg]; exact Nat.ne_of_gt (blk_lt (g := gb317) (o := .cells #[.slice Ao71 t310.length co71, .slice Ao78 t313.length co78] 26 (0, 0)) (kU BK317.out)) : gb363 ≠ gb317))
                 replace BK317 := Aside0.mk (blk_below (g := gb317) (o := .cells #[.slice Ao71 t310.length co71, .slice Ao78 t313.length co78] 26 (0, 0)) (kU BK317.out) hb)
                 clear hb hbox hg
                 obtain ⟨Ao163, co163, eo163⟩ := Kd.R_slice HO346.out
                 (first | subst eo163 | (injection eo163 with f1_ f2_ f3_; have f4_ := f1_.symm; have f5_ := f3_.symm; clear f1_ f2_ f3_; subst f4_; subst f5_))
                 obtain ⟨Ao164, co164, eo164⟩ := Kd.R_slice HO349.out
                 (first | subst eo164 | (injection eo164 with f1_ f2_ f3_; have f4_ := f1_.symm; have f5_ := f3_.symm; clear f1_ f2_ f3_; subst f4_; subst f5_))
                 obtain ⟨Ao165, co165, eo165⟩ := Kd.R_slice HO352.out
                 (first | subst eo165 | (injection eo165 with f1_ f2_ f3_; have f4_ := f1_.symm; have f5_ := f3_.symm; clear f1_ f2_ f3_; subst f4_; subst f5_))
                 obtain ⟨Ao166, co166, eo166⟩ := Kd.R_slice HO355.out
                 (first | subst eo166 | (injection eo166 with f1_ f2_ f3_; have f4_ := f1_.symm; have f5_ := f3_.symm; clear f1_ f2_ f3_; subst f4_; subst f5_))
                 refine hK.out _ _ ⟨(blk_cell BK272.out 0).trans rfl, (blk_cell BK272.out 1).trans rfl, (blk_cell BK273.out 0).trans rfl, (blk_cell BK273.out 1).trans rfl⟩ (fun hHeld => ?_)
                 clear hK K
                 refine norm_ (a' := ?_) ?_ ?_
                 rotate_left
                 ·
                  show Act.put _ (some 15) _ = _
                  simp only [Act.put, List.setIfInBounds_toArray, List.set_cons_zero, List.set_cons_succ, i64_w, i32_w]
                  rfl
                 refine one_ (i := 4) (N := some 99) #[true, true, true, true, true, false, false, false, true, false, false] rfl rfl (one_of HT_.out (by kernel_rfl)) (by decide) (fun K hK => ?_)
                 refine goes_ Try.func44 (by kernel_rfl) rfl #[.agg #[.slice Ao163 t344.length co163, .slice Ao164 t347.length co164], .agg #[.slice Ao165 t350.length co165, .slice Ao166 t353.length co166]] (by rfl) rfl rfl (by (try simp only [List.map_toArray, List.map_cons, List.map_nil]); first | done | rfl | (simp only [List.length_drop, List.length_take]; rfl)) ?_
                 with_reducible refine (impl_Copy.calls kj101 _ _ t344 _ _ t347 _ _ t350 _ _ t353 t356 t359 t362 _ ?side1 ?side2 ?side3 ?side4 ?side5 ?side6 ?side7 ?side8 A148.out).mono ?_
                 (case side1 => exact cU (Kd.R_reads' HO346.out).2.2)
                 (case side2 => exact (Kd.R_reads' HO346.out).2.1)
                 (case side3 => exact cU (Kd.R_reads' HO349.out).2.2)
                 (case side4 => exact (Kd.R_reads' HO349.out).2.1)
                 (case side5 => exact cU (Kd.R_reads' HO352.out).2.2)
                 (case side6 => exact (Kd.R_reads' HO352.out).2.1)
                 (case side7 => exact cU (Kd.R_reads' HO355.out).2.2)
                 (case side8 => exact (Kd.R_reads' HO355.out).2.1)
                 rintro e w167 ⟨v357, v360, rfl, ho0, ho1, hb⟩
                 refine ⟨_, rfl, ?_⟩
                 have HO358 := Aside0.mk (Kd.R_lower (Kd.R_new' (Kd.R_new' (Kd.R_new' (Kd.R_new' (Kd.R_new' (Kd.R_new' (Kd.R_new' (Kd.R_new' (Kd.R_new' (Kd.R_new' (Kd.R_new' (Kd.R_new' ho0 (Kd.R_lt (RU HO_296000.out))) (Kd.R_lt (RU HO_296001.out))) (Kd.R_lt (RU HO_303000.out))) (Kd.R_lt (RU HO_303001.out))) (Kd.R_lt (RU HO_310000.out))) (Kd.R_lt (RU HO_310001.out))) (Kd.R_lt (RU HO_318000.out))) (Kd.R_lt (RU HO_318001.out))) (Kd.R_lt (RU HO346.out))) (Kd.R_lt (RU HO349.out))) (Kd.R_lt (RU HO352.out))) (Kd.R_lt (RU HO355.out))) (below_size (bS7 HB.out GE272.out GE273.out GE295.out GE302.out GE309.out GE317.out GE363.out)))
                 have HO361 := Aside0.mk (Kd.R_lower (Kd.R_new' (Kd.R_new' (Kd.R_new' (Kd.R_new' (Kd.R_new' (Kd.R_new' (Kd.R_new' (Kd.R_new' (Kd.R_new' (Kd.R_new' (Kd.R_new' (Kd.R_new' ho1 (Kd.R_lt (RU HO_296000.out))) (Kd.R_lt (RU HO_296001.out))) (Kd.R_lt (RU HO_303000.out))) (Kd.R_lt (RU HO_303001.out))) (Kd.R_lt (RU HO_310000.out))) (Kd.R_lt (RU HO_310001.out))) (Kd.R_lt (RU HO_318000.out))) (Kd.R_lt (RU HO_318001.out))) (Kd.R_lt (RU HO346.out))) (Kd.R_lt (RU HO349.out))) (Kd.R_lt (RU HO352.out))) (Kd.R_lt (RU HO355.out))) (below_size (bS7 HB.out GE272.out GE273.out GE295.out GE302.out GE309.out GE317.out GE363.out)))
                 replace HO_296000 := Aside0.mk (Kd.R_mono (Kd.R_told (Kd.R_told (Kd.R_old (RU HO_296000.out) hb) (Kd.R_base ho0)) (Kd.R_base ho1)) (fun _ h_ => h_.1))
                 replace HO_296001 := Aside0.mk (Kd.R_mono (Kd.R_told (Kd.R_told (Kd.R_old (RU HO_296001.out) hb) (Kd.R_base ho0)) (Kd.R_base ho1)) (fun _ h_ => h_.1))
                 replace HO_303000 := Aside0.mk (Kd.R_mono (Kd.R_told (Kd.R_told (Kd.R_old (RU HO_303000.out) hb) (Kd.R_base ho0)) (Kd.R_base ho1)) (fun _ h_ => h_.1))
                 replace HO_303001 := Aside0.mk (Kd.R_mono (Kd.R_told (Kd.R_told (Kd.R_old (RU HO_303001.out) hb) (Kd.R_base ho0)) (Kd.R_base ho1)) (fun _ h_ => h_.1))
                 replace HO_310000 := Aside0.mk (Kd.R_mono (Kd.R_told (Kd.R_told (Kd.R_old (RU HO_310000.out) hb) (Kd.R_base ho0)) (Kd.R_base ho1)) (fun _ h_ => h_.1))
                 replace HO_310001 := Aside0.mk (Kd.R_mono (Kd.R_told (Kd.R_told (Kd.R_old (RU HO_310001.out) hb) (Kd.R_base ho0)) (Kd.R_base ho1)) (fun _ h_ => h_.1))
                 replace HO_318000 := Aside0.mk (Kd.R_mono (Kd.R_told (Kd.R_told (Kd.R_old (RU HO_318000.out) hb) (Kd.R_base ho0)) (Kd.R_base ho1)) (fun _ h_ => h_.1))
                 replace HO_318001 := Aside0.mk (Kd.R_mono (Kd.R_told (Kd.R_told (Kd.R_old (RU HO_318001.out) hb) (Kd.R_base ho0)) (Kd.R_base ho1)) (fun _ h_ => h_.1))
                 replace HO346 := Aside0.mk (Kd.R_mono (Kd.R_told (Kd.R_told (Kd.R_old (RU HO346.out) hb) (Kd.R_base ho0)) (Kd.R_base ho1)) (fun _ h_ => h_.1))
                 replace HO349 := Aside0.mk (Kd.R_mono (Kd.R_told (Kd.R_told (Kd.R_old (RU HO349.out) hb) (Kd.R_base ho0)) (Kd.R_base ho1)) (fun _ h_ => h_.1))
                 replace HO352 := Aside0.mk (Kd.R_mono (Kd.R_told (Kd.R_told (Kd.R_old (RU HO352.out) hb) (Kd.R_base ho0)) (Kd.R_base ho1)) (fun _ h_ => h_.1))
                 replace HO355 := Aside0.mk (Kd.R_mono (Kd.R_told (Kd.R_told (Kd.R_old (RU HO355.out) hb) (Kd.R_base ho0)) (Kd.R_base ho1)) (fun _ h_ => h_.1))
                 replace BK272 := Aside0.mk (blk_below (g := gb272) (o := .cells #[.slice A0_0 l0_0.length c0_0, .slice A0_1 l0_1.length c0_1] 24 (0, 0)) (kU BK272.out) hb)
                 replace BK273 := Aside0.mk (blk_below (g := gb273) (o := .cells #[.slice A1_0 l1_0.length c1_0, .slice A1_1 l1_1.length c1_1] 24 (0, 0)) (kU BK273.out) hb)
                 replace BK295 := Aside0.mk (blk_below (g := gb295) (o := .cells #[.slice Ao43 t288.length co43, .slice Ao45 t291.length co45] 26 (0, 0)) (kU BK295.out) hb)
                 replace BK302 := Aside0.mk (blk_below (g := gb302) (o := .cells #[.slice Ao51 t334.length co51, .slice Ao56 t335.length co56] 26 (0, 0)) (kU BK302.out) hb)
                 replace BK309 := Aside0.mk (blk_below (g := gb309) (o := .cells #[.slice Ao61 t337.length co61, .slice Ao67 t338.length co67] 26 (0, 0)) (kU BK309.out) hb)
                 replace BK317 := Aside0.mk (blk_below (g := gb317) (o := .cells #[.slice Ao71 t310.length co71, .slice Ao78 t313.length co78] 26 (0, 0)) (kU BK317.out) hb)
                 replace BK363 := Aside0.mk (blk_below (g := gb363) (o := .cells #[.slice none 0 0, .slice none 0 0] 26 (0, 0)) (kU BK363.out) hb)
                 replace HB := Aside0.mk (below_step (bS7 HB.out GE272.out GE273.out GE295.out GE302.out GE309.out GE317.out GE363.out) hb)
                 (try clear hb)
                 (try clear hb2)
                 (try clear hk)
                 (try clear hi)
                 (try clear ho0)
                 (try clear ho1)
                 refine hK.out _ _ ⟨(blk_cell BK272.out 0).trans rfl, (blk_cell BK272.out 1).trans rfl, (blk_cell BK273.out 0).trans rfl, (blk_cell BK273.out 1).trans rfl⟩ (fun hHeld => ?_)
                 clear hK K
                 refine norm_ (a' := ?_) ?_ ?_
                 rotate_left
                 ·
                  show Act.put _ (some 99) _ = _
                  simp only [Act.put, List.setIfInBounds_toArray, List.set_cons_zero, List.set_cons_succ, i64_w, i32_w]
                  rfl
                 refine pure_ (i := 5) (N := some 94) (v := ?_) (a' := ?_) #[true, true, true, true, true, true, false, false, true, false, false] rfl rfl (any_of HT_.out (by kernel_rfl)) (fun _ _ _ h => h) (Or.inl ⟨by rfl, ?_⟩) ?_ ?_
                 rotate_left
                 ·
                  intro w'
                  go_simp
                  with_reducible rfl
                 rotate_left
                 ·
                  simp only [Act.put, List.setIfInBounds_toArray, List.set_cons_zero, List.set_cons_succ, i64_w, i32_w]
                  rfl
                 refine pure_ (i := 6) (N := some 100) (v := ?_) (a' := ?_) #[true, true, true, true, true, true, true, false, true, false, false] rfl rfl (any_of HT_.out (by kernel_rfl)) (fun _ _ _ h => h) (Or.inl ⟨by rfl, ?_⟩) ?_ ?_
                 rotate_left
                 ·
                  intro w'
                  go_simp
                  with_reducible rfl
                 rotate_left
                 ·
                  simp only [Act.put, List.setIfInBounds_toArray, List.set_cons_zero, List.set_cons_succ, i64_w, i32_w]
                  rfl
                 refine pure_ (i := 7) (N := some 101) (v := ?_) (a' := ?_) #[true, true, true, true, true, true, true, true, true, false, false] rfl rfl (any_of HT_.out (by kernel_rfl)) (fun _ _ _ h => h) (Or.inl ⟨by rfl, ?_⟩) ?_ ?_
                 rotate_left
                 ·
                  intro w'
                  go_simp
                  with_reducible rfl
                 rotate_left
                 ·
                  simp only [Act.put, List.setIfInBounds_toArray, List.set_cons_zero, List.set_cons_succ, i64_w, i32_w]
                  rfl
                 exact norm_ (by simp only [putAll, Act.put, List.setIfInBounds_toArray, List.set_cons_zero, List.set_cons_succ]) (hCont (.slice Ao163 t344.length co163, .slice Ao164 t347.length co164, .slice Ao165 t350.length co165, .slice Ao166 t353.length co166, v357, v360, gb363) _ ⟨hHeld, (by (with_reducible repeat (first | apply Kd.R_alloc | apply Kd.R_drewN | apply Kd.R_drew)); exact Kd.R_mono HO346.out (fun _ hk => ⟨hk.1.1.1.1.1.1.1.1.1.1.1.1, ⟨hk.1.1.1.2, ⟨hk.1.1.2, ⟨hk.1.2, ⟨hk.2, ⟨hk.1.1.1.1.1.1.1.1.1.1.1.2, ⟨hk.1.1.1.1.1.1.1.1.1.1.2, ⟨hk.1.1.1.1.1.1.1.1.1.2, ⟨hk.1.1.1.1.1.1.1.1.2, ⟨hk.1.1.1.1.1.1.1.2, ⟨hk.1.1.1.1.1.1.2, ⟨hk.1.1.1.1.1.2, hk.1.1.1.1.2⟩⟩⟩⟩⟩⟩⟩⟩⟩⟩⟩⟩)), (by (with_reducible repeat (first | apply Kd.R_alloc | apply Kd.R_drewN | apply Kd.R_drew)); exact Kd.R_mono HO349.out (fun _ hk => ⟨hk.1.1.1.1.1.1.1.1.1.1.1.1, ⟨hk.1.1.1.2, ⟨hk.1.1.2, ⟨hk.1.2, ⟨hk.2, ⟨hk.1.1.1.1.1.1.1.1.1.1.1.2, ⟨hk.1.1.1.1.1.1.1.1.1.1.2, ⟨hk.1.1.1.1.1.1.1.1.1.2, ⟨hk.1.1.1.1.1.1.1.1.2, ⟨hk.1.1.1.1.1.1.1.2, ⟨hk.1.1.1.1.1.1.2, ⟨hk.1.1.1.1.1.2, hk.1.1.1.1.2⟩⟩⟩⟩⟩⟩⟩⟩⟩⟩⟩⟩)), (by (with_reducible repeat (first | apply Kd.R_alloc | apply Kd.R_drewN | apply Kd.R_drew)); exact Kd.R_mono HO352.out (fun _ hk => ⟨hk.1.1.1.2, ⟨hk.1.1.2, ⟨hk.1.1.1.1.1.1.1.1.1.1.1.1, ⟨hk.1.2, ⟨hk.2, ⟨hk.1.1.1.1.1.1.1.1.1.1.1.2, ⟨hk.1.1.1.1.1.1.1.1.1.1.2, ⟨hk.1.1.1.1.1.1.1.1.1.2, ⟨hk.1.1.1.1.1.1.1.1.2, ⟨hk.1.1.1.1.1.1.1.2, ⟨hk.1.1.1.1.1.1.2, ⟨hk.1.1.1.1.1.2, hk.1.1.1.1.2⟩⟩⟩⟩⟩⟩⟩⟩⟩⟩⟩⟩)), (by (with_reducible repeat (first | apply Kd.R_alloc | apply Kd.R_drewN | apply Kd.R_drew)); exact Kd.R_mono HO355.out (fun _ hk => ⟨hk.1.1.1.2, ⟨hk.1.1.2, ⟨hk.1.1.1.1.1.1.1.1.1.1.1.1, ⟨hk.1.2, ⟨hk.2, ⟨hk.1.1.1.1.1.1.1.1.1.1.1.2, ⟨hk.1.1.1.1.1.1.1.1.1.1.2, ⟨hk.1.1.1.1.1.1.1.1.1.2, ⟨hk.1.1.1.1.1.1.1.1.2, ⟨hk.1.1.1.1.1.1.1.2, ⟨hk.1.1.1.1.1.1.2, ⟨hk.1.1.1.1.1.2, hk.1.1.1.1.2⟩⟩⟩⟩⟩⟩⟩⟩⟩⟩⟩⟩)), (by (with_reducible repeat (first | apply Kd.R_alloc | apply Kd.R_drewN | apply Kd.R_drew)); exact Kd.R_mono HO358.out (fun _ hk => ⟨hk.1.1.1.2, ⟨hk.1.1.2, ⟨hk.1.2, ⟨hk.2, ⟨hk.1.1.1.1.1.1.1.1.1.1.1.1, ⟨hk.1.1.1.1.1.1.1.1.1.1.1.2, ⟨hk.1.1.1.1.1.1.1.1.1.1.2, ⟨hk.1.1.1.1.1.1.1.1.1.2, ⟨hk.1.1.1.1.1.1.1.1.2, ⟨hk.1.1.1.1.1.1.1.2, ⟨hk.1.1.1.1.1.1.2, ⟨hk.1.1.1.1.1.2, hk.1.1.1.1.2⟩⟩⟩⟩⟩⟩⟩⟩⟩⟩⟩⟩)), (by (with_reducible repeat (first | apply Kd.R_alloc | apply Kd.R_drewN | apply Kd.R_drew)); exact Kd.R_mono HO361.out (fun _ hk => ⟨hk.1.1.1.2, ⟨hk.1.1.2, ⟨hk.1.2, ⟨hk.2, ⟨hk.1.1.1.1.1.1.1.1.1.1.1.1, ⟨hk.1.1.1.1.1.1.1.1.1.1.1.2, ⟨hk.1.1.1.1.1.1.1.1.1.1.2, ⟨hk.1.1.1.1.1.1.1.1.1.2, ⟨hk.1.1.1.1.1.1.1.1.2, ⟨hk.1.1.1.1.1.1.1.2, ⟨hk.1.1.1.1.1.1.2, ⟨hk.1.1.1.1.1.2, hk.1.1.1.1.2⟩⟩⟩⟩⟩⟩⟩⟩⟩⟩⟩⟩)), (by (with_reducible repeat (first | apply Kd.R_alloc | apply Kd.R_drewN | apply Kd.R_drew)); exact Kd.R_mono HO_296000.out (fun _ hk => ⟨hk.1.1.1.1.1.2, ⟨hk.1.1.1.1.2, ⟨hk.1.1.1.2, ⟨hk.1.1.2, ⟨hk.1.2, ⟨hk.2, ⟨hk.1.1.1.1.1.1.1, ⟨hk.1.1.1.1.1.1.2.1, ⟨hk.1.1.1.1.1.1.2.2.1, ⟨hk.1.1.1.1.1.1.2.2.2.1, ⟨hk.1.1.1.1.1.1.2.2.2.2.1, ⟨hk.1.1.1.1.1.1.2.2.2.2.2.1, hk.1.1.1.1.1.1.2.2.2.2.2.2⟩⟩⟩⟩⟩⟩⟩⟩⟩⟩⟩⟩)), (by (with_reducible repeat (first | apply Kd.R_alloc | apply Kd.R_drewN | apply Kd.R_drew)); exact Kd.R_mono HO_296001.out (fun _ hk => ⟨hk.1.1.1.1.1.2, ⟨hk.1.1.1.1.2, ⟨hk.1.1.1.2, ⟨hk.1.1.2, ⟨hk.1.2, ⟨hk.2, ⟨hk.1.1.1.1.1.1.1, ⟨hk.1.1.1.1.1.1.2.1, ⟨hk.1.1.1.1.1.1.2.2.1, ⟨hk.1.1.1.1.1.1.2.2.2.1, ⟨hk.1.1.1.1.1.1.2.2.2.2.1, ⟨hk.1.1.1.1.1.1.2.2.2.2.2.1, hk.1.1.1.1.1.1.2.2.2.2.2.2⟩⟩⟩⟩⟩⟩⟩⟩⟩⟩⟩⟩)), (by (with_reducible repeat (first | apply Kd.R_alloc | apply Kd.R_drewN | apply Kd.R_drew)); exact Kd.R_mono HO_303000.out (fun _ hk => ⟨hk.1.1.1.1.1.2, ⟨hk.1.1.1.1.2, ⟨hk.1.1.1.2, ⟨hk.1.1.2, ⟨hk.1.2, ⟨hk.2, ⟨hk.1.1.1.1.1.1.1, ⟨hk.1.1.1.1.1.1.2.1, ⟨hk.1.1.1.1.1.1.2.2.1, ⟨hk.1.1.1.1.1.1.2.2.2.1, ⟨hk.1.1.1.1.1.1.2.2.2.2.1, ⟨hk.1.1.1.1.1.1.2.2.2.2.2.1, hk.1.1.1.1.1.1.2.2.2.2.2.2⟩⟩⟩⟩⟩⟩⟩⟩⟩⟩⟩⟩)), (by (with_reducible repeat (first | apply Kd.R_alloc | apply Kd.R_drewN | apply Kd.R_drew)); exact Kd.R_mono HO_303001.out (fun _ hk => ⟨hk.1.1.1.1.1.2, ⟨hk.1.1.1.1.2, ⟨hk.1.1.1.2, ⟨hk.1.1.2, ⟨hk.1.2, ⟨hk.2, ⟨hk.1.1.1.1.1.1.1, ⟨hk.1.1.1.1.1.1.2.1, ⟨hk.1.1.1.1.1.1.2.2.1, ⟨hk.1.1.1.1.1.1.2.2.2.1, ⟨hk.1.1.1.1.1.1.2.2.2.2.1, ⟨hk.1.1.1.1.1.1.2.2.2.2.2.1, hk.1.1.1.1.1.1.2.2.2.2.2.2⟩⟩⟩⟩⟩⟩⟩⟩⟩⟩⟩⟩)), (by (with_reducible repeat (first | apply Kd.R_alloc | apply Kd.R_drewN | apply Kd.R_drew)); exact Kd.R_mono HO_310000.out (fun _ hk => ⟨hk.1.1.1.1.1.2, ⟨hk.1.1.1.1.2, ⟨hk.1.1.1.2, ⟨hk.1.1.2, ⟨hk.1.2, ⟨hk.2, ⟨hk.1.1.1.1.1.1.1, ⟨hk.1.1.1.1.1.1.2.1, ⟨hk.1.1.1.1.1.1.2.2.1, ⟨hk.1.1.1.1.1.1.2.2.2.1, ⟨hk.1.1.1.1.1.1.2.2.2.2.1, ⟨hk.1.1.1.1.1.1.2.2.2.2.2.1, hk.1.1.1.1.1.1.2.2.2.2.2.2⟩⟩⟩⟩⟩⟩⟩⟩⟩⟩⟩⟩)), (by (with_reducible repeat (first | apply Kd.R_alloc | apply Kd.R_drewN | apply Kd.R_drew)); exact Kd.R_mono HO_310001.out (fun _ hk => ⟨hk.1.1.1.1.1.2, ⟨hk.1.1.1.1.2, ⟨hk.1.1.1.2, ⟨hk.1.1.2, ⟨hk.1.2, ⟨hk.2, ⟨hk.1.1.1.1.1.1.1, ⟨hk.1.1.1.1.1.1.2.1, ⟨hk.1.1.1.1.1.1.2.2.1, ⟨hk.1.1.1.1.1.1.2.2.2.1, ⟨hk.1.1.1.1.1.1.2.2.2.2.1, ⟨hk.1.1.1.1.1.1.2.2.2.2.2.1, hk.1.1.1.1.1.1.2.2.2.2.2.2⟩⟩⟩⟩⟩⟩⟩⟩⟩⟩⟩⟩)), (by (with_reducible repeat (first | apply Kd.R_alloc | apply Kd.R_drewN | apply Kd.R_drew)); exact Kd.R_mono HO_318000.out (fun _ hk => ⟨hk.1.1.1.1.1.2, ⟨hk.1.1.1.1.2, ⟨hk.1.1.1.2, ⟨hk.1.1.2, ⟨hk.1.2, ⟨hk.2, ⟨hk.1.1.1.1.1.1.1, ⟨hk.1.1.1.1.1.1.2.1, ⟨hk.1.1.1.1.1.1.2.2.1, ⟨hk.1.1.1.1.1.1.2.2.2.1, ⟨hk.1.1.1.1.1.1.2.2.2.2.1, ⟨hk.1.1.1.1.1.1.2.2.2.2.2.1, hk.1.1.1.1.1.1.2.2.2.2.2.2⟩⟩⟩⟩⟩⟩⟩⟩⟩⟩⟩⟩)), (by (with_reducible repeat (first | apply Kd.R_alloc | apply Kd.R_drewN | apply Kd.R_drew)); exact Kd.R_mono HO_318001.out (fun _ hk => ⟨hk.1.1.1.1.1.2, ⟨hk.1.1.1.1.2, ⟨hk.1.1.1.2, ⟨hk.1.1.2, ⟨hk.1.2, ⟨hk.2, ⟨hk.1.1.1.1.1.1.1, ⟨hk.1.1.1.1.1.1.2.1, ⟨hk.1.1.1.1.1.1.2.2.1, ⟨hk.1.1.1.1.1.1.2.2.2.1, ⟨hk.1.1.1.1.1.1.2.2.2.2.1, ⟨hk.1.1.1.1.1.1.2.2.2.2.2.1, hk.1.1.1.1.1.1.2.2.2.2.2.2⟩⟩⟩⟩⟩⟩⟩⟩⟩⟩⟩⟩)), (kU BK272.out), (kU BK273.out), (kU BK295.out), (kU BK302.out), (kU BK309.out), (kU BK317.out), (kU BK363.out), GW363.out, GE363.out, NB272_363.out, NB363_272.out, NB273_363.out, NB363_273.out, NB295_363.out, NB363_295.out, NB302_363.out, NB363_302.out, NB309_363.out, NB363_309.out, NB317_363.out, NB363_317.out, (bS7 HB.out GE272.out GE273.out GE295.out GE302.out GE309.out GE317.out GE363.out)⟩)
               ·
                skip
                refine box_step ?hg (N := 15) ?hd (cs := #[.slice none 0 0, .slice none 0 0]) (t := 26) ?hr ?_; (case hd => rfl); (case hg => rfl); (case hr => first | (go_simp; done) | (go_simp; rfl))
                intro gb363 hg w161 hbox hb
                replace HO_296000 := Aside0.mk (Kd.R_below (RU HO_296000.out) hb)
                replace HO_296001 := Aside0.mk (Kd.R_below (RU HO_296001.out) hb)
                replace HO_303000 := Aside0.mk (Kd.R_below (RU HO_303000.out) hb)
                replace HO_303001 := Aside0.mk (Kd.R_below (RU HO_303001.out) hb)
                replace HO_310000 := Aside0.mk (Kd.R_below (RU HO_310000.out) hb)
                replace HO_310001 := Aside0.mk (Kd.R_below (RU HO_310001.out) hb)
                replace HO_318000 := Aside0.mk (Kd.R_below (RU HO_318000.out) hb)
                replace HO_318001 := Aside0.mk (Kd.R_below (RU HO_318001.out) hb)
                replace HO346 := Aside0.mk (Kd.R_below (RU HO346.out) hb)
                replace HO349 := Aside0.mk (Kd.R_below (RU HO349.out) hb)
                have BK363 := Aside0.mk (hbox)
                have GW363 := Aside0.mk ((by rw [hg]; exact (below_size (bS6 HB.out GE272.out GE273.out GE295.out GE302.out GE309.out GE317.out)) : w.heap.size ≤ gb363))
                have GE363 := Aside0.mk ((by rw [hg]; exact (below_size (bS6 HB.out GE272.out GE273.out GE295.out GE302.out GE309.out GE317.out)) : w.heap.size ≤ gb363))
                replace HB := Aside0.mk (below_step (bS6 HB.out GE272.out GE273.out GE295.out GE302.out GE309.out GE317.out) hb)
                have NB272_363 := Aside0.mk ((by rw [hg]; exact Nat.ne_of_lt (blk_lt (g := gb272) (o := .cells #[.slice A0_0 l0_0.length c0_0, .slice A0_1 l0_1.length c0_1] 24 (0, 0)) (kU BK272.out)) : gb272 ≠ gb363))
                have NB363_272 := Aside0.mk ((by rw [hg]; exact Nat.ne_of_gt (blk_lt (g := gb272) (o := .cells #[.slice A0_0 l0_0.length c0_0, .slice A0_1 l0_1.length c0_1] 24 (0, 0)) (kU BK272.out)) : gb363 ≠ gb272))
                replace BK272 := Aside0.mk (blk_below (g := gb272) (o := .cells #[.slice A0_0 l0_0.length c0_0, .slice A0_1 l0_1.length c0_1] 24 (0, 0)) (kU BK272.out) hb)
                have NB273_363 := Aside0.mk ((by rw [hg]; exact Nat.ne_of_lt (blk_lt (g := gb273) (o := .cells #[.slice A1_0 l1_0.length c1_0, .slice A1_1 l1_1.length c1_1] 24 (0, 0)) (kU BK273.out)) : gb273 ≠ gb363))
                have NB363_273 := Aside0.mk ((by rw [hg]; exact Nat.ne_of_gt (blk_lt (g := gb273) (o := .cells #[.slice A1_0 l1_0.length c1_0, .slice A1_1 l1_1.length c1_1] 24 (0, 0)) (kU BK273.out)) : gb363 ≠ gb273))
                replace BK273 := Aside0.mk (blk_below (g := gb273) (o := .cells #[.slice A1_0 l1_0.length c1_0, .slice A1_1 l1_1.length c1_1] 24 (0, 0)) (kU BK273.out) hb)
                have NB295_363 := Aside0.mk ((by rw [hg]; exact Nat.ne_of_lt (blk_lt (g := gb295) (o := .cells #[.slice Ao43 t288.length co43, .slice Ao45 t291.length co45] 26 (0, 0)) (kU BK295.out)) : gb295 ≠ gb363))
                have NB363_295 := Aside0.mk ((by rw [hg]; exact Nat.ne_of_gt (blk_lt (g := gb295) (o := .cells #[.slice Ao43 t288.length co43, .slice Ao45 t291.length co45] 26 (0, 0)) (kU BK295.out)) : gb363 ≠ gb295))
                replace BK295 := Aside0.mk (blk_below (g := gb295) (o := .cells #[.slice Ao43 t288.length co43, .slice Ao45 t291.length co45] 26 (0, 0)) (kU BK295.out) hb)
                have NB302_363 := Aside0.mk ((by rw [hg]; exact Nat.ne_of_lt (blk_lt (g := gb302) (o := .cells #[.slice Ao51 t334.length co51, .slice Ao56 t335.length co56] 26 (0, 0)) (kU BK302.out)) : gb302 ≠ gb363))
                have NB363_302 := Aside0.mk ((by rw [hg]; exact Nat.ne_of_gt (blk_lt (g := gb302) (o := .cells #[.slice Ao51 t334.length co51, .slice Ao56 t335.length co56] 26 (0, 0)) (kU BK302.out)) : gb363 ≠ gb302))
                replace BK302 := Aside0.mk (blk_below (g := gb302) (o := .cells #[.slice Ao51 t334.length co51, .slice Ao56 t335.length co56] 26 (0, 0)) (kU BK302.out) hb)
                have NB309_363 := Aside0.mk ((by rw [hg]; exact Nat.ne_of_lt (blk_lt (g := gb309) (o := .cells #[.slice Ao61 t337.length co61, .slice Ao67 t338.length co67] 26 (0, 0)) (kU BK309.out)) : gb309 ≠ gb363))
                have NB363_309 := Aside0.mk ((by rw [hg]; exact Nat.ne_of_gt (blk_lt (g := gb309) (o := .cells #[.slice Ao61 t337.length co61, .slice Ao67 t338.length co67] 26 (0, 0)) (kU BK309.out)) : gb363 ≠ gb309))
                replace BK309 := Aside0.mk (blk_below (g := gb309) (o := .cells #[.slice Ao61 t337.length co61, .slice Ao67 t338.length co67] 26 (0, 0)) (kU BK309.out) hb)
                have NB317_363 := Aside0.mk ((by rw [hg]; exact Nat.ne_of_lt (blk_lt (g := gb317) (o := .cells #[.slice Ao71 t310.length co71, .slice Ao78 t313.length co78] 26 (0, 0)) (kU BK317.out)) : gb317 ≠ gb363))
                have NB363_317 := Aside0.mk ((by rw [hg]; exact Nat.ne_of_gt (blk_lt (g := gb317) (o := .cells #[.slice Ao71 t310.length co71, .slice Ao78 t313.length co78] 26 (0, 0)) (kU BK317.out)) : gb363 ≠ gb317))
                replace BK317 := Aside0.mk (blk_below (g := gb317) (o := .cells #[.slice Ao71 t310.length co71, .slice Ao78 t313.length co78] 26 (0, 0)) (kU BK317.out) hb)
                clear hb hbox hg
                refine hK.out _ _ ⟨(blk_cell BK272.out 0).trans rfl, (blk_cell BK272.out 1).trans rfl, (blk_cell BK273.out 0).trans rfl, (blk_cell BK273.out 1).trans rfl⟩ (fun hHeld => ?_)
                clear hK K
                refine norm_ (a' := ?_) ?_ ?_
                rotate_left
                ·
                 show Act.put _ (some 15) _ = _
                 simp only [Act.put, List.setIfInBounds_toArray, List.set_cons_zero, List.set_cons_succ, i64_w, i32_w]
                 rfl
                refine one_ (i := 3) (N := some 98) #[true, true, true, true, false, false, false, false, true, false, false] rfl rfl (one_of HT_.out (by kernel_rfl)) (by decide) (fun K hK => ?_)
                refine goes_ Try.func17 (by kernel_rfl) rfl #[.agg #[.slice A1_0 l1_0.length c1_0, .slice A1_1 l1_1.length c1_1]] (by rfl) rfl rfl (by (try simp only [List.map_toArray, List.map_cons, List.map_nil]); first | done | rfl | (simp only [List.length_drop, List.length_take]; rfl)) ?_
                with_reducible refine (laws_toArray.calls kj101 _ _ l1_0 _ _ l1_1 t350 t353 _ ?side1 ?side2 ?side3 ?side4 A147.out).mono ?_
                (case side1 => exact cU (Kd.C_below HR1_0.out HB.out))
                (case side2 => exact HC1_0.out)
                (case side3 => exact cU (Kd.C_below HR1_1.out HB.out))
                (case side4 => exact HC1_1.out)
                rintro e w162 ⟨v351, v354, rfl, ho0, ho1, hb⟩
                refine ⟨_, rfl, ?_⟩
                have HO352 := Aside0.mk (Kd.R_lower (Kd.R_new' (Kd.R_new' (Kd.R_new' (Kd.R_new' (Kd.R_new' (Kd.R_new' (Kd.R_new' (Kd.R_new' (Kd.R_new' (Kd.R_new' ho0 (Kd.R_lt (RU HO_296000.out))) (Kd.R_lt (RU HO_296001.out))) (Kd.R_lt (RU HO_303000.out))) (Kd.R_lt (RU HO_303001.out))) (Kd.R_lt (RU HO_310000.out))) (Kd.R_lt (RU HO_310001.out))) (Kd.R_lt (RU HO_318000.out))) (Kd.R_lt (RU HO_318001.out))) (Kd.R_lt (RU HO346.out))) (Kd.R_lt (RU HO349.out))) (below_size (bS7 HB.out GE272.out GE273.out GE295.out GE302.out GE309.out GE317.out GE363.out)))
                have HO355 := Aside0.mk (Kd.R_lower (Kd.R_new' (Kd.R_new' (Kd.R_new' (Kd.R_new' (Kd.R_new' (Kd.R_new' (Kd.R_new' (Kd.R_new' (Kd.R_new' (Kd.R_new' ho1 (Kd.R_lt (RU HO_296000.out))) (Kd.R_lt (RU HO_296001.out))) (Kd.R_lt (RU HO_303000.out))) (Kd.R_lt (RU HO_303001.out))) (Kd.R_lt (RU HO_310000.out))) (Kd.R_lt (RU HO_310001.out))) (Kd.R_lt (RU HO_318000.out))) (Kd.R_lt (RU HO_318001.out))) (Kd.R_lt (RU HO346.out))) (Kd.R_lt (RU HO349.out))) (below_size (bS7 HB.out GE272.out GE273.out GE295.out GE302.out GE309.out GE317.out GE363.out)))
                replace HO_296000 := Aside0.mk (Kd.R_mono (Kd.R_told (Kd.R_told (Kd.R_old (RU HO_296000.out) hb) (Kd.R_base ho0)) (Kd.R_base ho1)) (fun _ h_ => h_.1))
                replace HO_296001 := Aside0.mk (Kd.R_mono (Kd.R_told (Kd.R_told (Kd.R_old (RU HO_296001.out) hb) (Kd.R_base ho0)) (Kd.R_base ho1)) (fun _ h_ => h_.1))
                replace HO_303000 := Aside0.mk (Kd.R_mono (Kd.R_told (Kd.R_told (Kd.R_old (RU HO_303000.out) hb) (Kd.R_base ho0)) (Kd.R_base ho1)) (fun _ h_ => h_.1))
                replace HO_303001 := Aside0.mk (Kd.R_mono (Kd.R_told (Kd.R_told (Kd.R_old (RU HO_303001.out) hb) (Kd.R_base ho0)) (Kd.R_base ho1)) (fun _ h_ => h_.1))
                replace HO_310000 := Aside0.mk (Kd.R_mono (Kd.R_told (Kd.R_told (Kd.R_old (RU HO_310000.out) hb) (Kd.R_base ho0)) (Kd.R_base ho1)) (fun _ h_ => h_.1))
                replace HO_310001 := Aside0.mk (Kd.R_mono (Kd.R_told (Kd.R_told (Kd.R_old (RU HO_310001.out) hb) (Kd.R_base ho0)) (Kd.R_base ho1)) (fun _ h_ => h_.1))
                replace HO_318000 := Aside0.mk (Kd.R_mono (Kd.R_told (Kd.R_told (Kd.R_old (RU HO_318000.out) hb) (Kd.R_base ho0)) (Kd.R_base ho1)) (fun _ h_ => h_.1))
                replace HO_318001 := Aside0.mk (Kd.R_mono (Kd.R_told (Kd.R_told (Kd.R_old (RU HO_318001.out) hb) (Kd.R_base ho0)) (Kd.R_base ho1)) (fun _ h_ => h_.1))
                replace HO346 := Aside0.mk (Kd.R_mono (Kd.R_told (Kd.R_told (Kd.R_old (RU HO346.out) hb) (Kd.R_base ho0)) (Kd.R_base ho1)) (fun _ h_ => h_.1))
                replace HO349 := Aside0.mk (Kd.R_mono (Kd.R_told (Kd.R_told (Kd.R_old (RU HO349.out) hb) (Kd.R_base ho0)) (Kd.R_base ho1)) (fun _ h_ => h_.1))
                replace BK272 := Aside0.mk (blk_below (g := gb272) (o := .cells #[.slice A0_0 l0_0.length c0_0, .slice A0_1 l0_1.length c0_1] 24 (0, 0)) (kU BK272.out) hb)
                replace BK273 := Aside0.mk (blk_below (g := gb273) (o := .cells #[.slice A1_0 l1_0.length c1_0, .slice A1_1 l1_1.length c1_1] 24 (0, 0)) (kU BK273.out) hb)
                replace BK295 := Aside0.mk (blk_below (g := gb295) (o := .cells #[.slice Ao43 t288.length co43, .slice Ao45 t291.length co45] 26 (0, 0)) (kU BK295.out) hb)
                replace BK302 := Aside0.mk (blk_below (g := gb302) (o := .cells #[.slice Ao51 t334.length co51, .slice Ao56 t335.length co56] 26 (0, 0)) (kU BK302.out) hb)
                replace BK309 := Aside0.mk (blk_below (g := gb309) (o := .cells #[.slice Ao61 t337.length co61, .slice Ao67 t338.length co67] 26 (0, 0)) (kU BK309.out) hb)
                replace BK317 := Aside0.mk (blk_below (g := gb317) (o := .cells #[.slice Ao71 t310.length co71, .slice Ao78 t313.length co78] 26 (0, 0)) (kU BK317.out) hb)
                replace BK363 := Aside0.mk (blk_below (g := gb363) (o := .cells #[.slice none 0 0, .slice none 0 0] 26 (0, 0)) (kU BK363.out) hb)
                replace HB := Aside0.mk (below_step (bS7 HB.out GE272.out GE273.out GE295.out GE302.out GE309.out GE317.out GE363.out) hb)
                (try clear hb)
                (try clear hb2)
                (try clear hk)
                (try clear hi)
                (try clear ho0)
                (try clear ho1)
                obtain ⟨Ao163, co163, eo163⟩ := Kd.R_slice HO346.out
                (first | subst eo163 | (injection eo163 with f1_ f2_ f3_; have f4_ := f1_.symm; have f5_ := f3_.symm; clear f1_ f2_ f3_; subst f4_; subst f5_))
                obtain ⟨Ao164, co164, eo164⟩ := Kd.R_slice HO349.out
                (first | subst eo164 | (injection eo164 with f1_ f2_ f3_; have f4_ := f1_.symm; have f5_ := f3_.symm; clear f1_ f2_ f3_; subst f4_; subst f5_))
                obtain ⟨Ao165, co165, eo165⟩ := Kd.R_slice HO352.out
                (first | subst eo165 | (injection eo165 with f1_ f2_ f3_; have f4_ := f1_.symm; have f5_ := f3_.symm; clear f1_ f2_ f3_; subst f4_; subst f5_))
                obtain ⟨Ao166, co166, eo166⟩ := Kd.R_slice HO355.out
                (first | subst eo166 | (injection eo166 with f1_ f2_ f3_; have f4_ := f1_.symm; have f5_ := f3_.symm; clear f1_ f2_ f3_; subst f4_; subst f5_))
                refine hK.out _ _ ⟨(blk_cell BK272.out 0).trans rfl, (blk_cell BK272.out 1).trans rfl, (blk_cell BK273.out 0).trans rfl, (blk_cell BK273.out 1).trans rfl⟩ (fun hHeld => ?_)
                clear hK K
                refine norm_ (a' := ?_) ?_ ?_
                rotate_left
                ·
                 show Act.put _ (some 98) _ = _
                 simp only [Act.put, List.setIfInBounds_toArray, List.set_cons_zero, List.set_cons_succ, i64_w, i32_w]
                 rfl
                refine one_ (i := 4) (N := some 99) #[true, true, true, true, true, false, false, false, true, false, false] rfl rfl (one_of HT_.out (by kernel_rfl)) (by decide) (fun K hK => ?_)
                refine goes_ Try.func44 (by kernel_rfl) rfl #[.agg #[.slice Ao163 t344.length co163, .slice Ao164 t347.length co164], .agg #[.slice Ao165 t350.length co165, .slice Ao166 t353.length co166]] (by rfl) rfl rfl (by (try simp only [List.map_toArray, List.map_cons, List.map_nil]); first | done | rfl | (simp only [List.length_drop, List.length_take]; rfl)) ?_
                with_reducible refine (impl_Copy.calls kj101 _ _ t344 _ _ t347 _ _ t350 _ _ t353 t356 t359 t362 _ ?side1 ?side2 ?side3 ?side4 ?side5 ?side6 ?side7 ?side8 A148.out).mono ?_
                (case side1 => exact cU (Kd.R_reads' HO346.out).2.2)
                (case side2 => exact (Kd.R_reads' HO346.out).2.1)
                (case side3 => exact cU (Kd.R_reads' HO349.out).2.2)
                (case side4 => exact (Kd.R_reads' HO349.out).2.1)
                (case side5 => exact cU (Kd.R_reads' HO352.out).2.2)
                (case side6 => exact (Kd.R_reads' HO352.out).2.1)
                (case side7 => exact cU (Kd.R_reads' HO355.out).2.2)
                (case side8 => exact (Kd.R_reads' HO355.out).2.1)
                rintro e w167 ⟨v357, v360, rfl, ho0, ho1, hb⟩
                refine ⟨_, rfl, ?_⟩
                have HO358 := Aside0.mk (Kd.R_lower (Kd.R_new' (Kd.R_new' (Kd.R_new' (Kd.R_new' (Kd.R_new' (Kd.R_new' (Kd.R_new' (Kd.R_new' (Kd.R_new' (Kd.R_new' (Kd.R_new' (Kd.R_new' ho0 (Kd.R_lt (RU HO_296000.out))) (Kd.R_lt (RU HO_296001.out))) (Kd.R_lt (RU HO_303000.out))) (Kd.R_lt (RU HO_303001.out))) (Kd.R_lt (RU HO_310000.out))) (Kd.R_lt (RU HO_310001.out))) (Kd.R_lt (RU HO_318000.out))) (Kd.R_lt (RU HO_318001.out))) (Kd.R_lt (RU HO346.out))) (Kd.R_lt (RU HO349.out))) (Kd.R_lt (RU HO352.out))) (Kd.R_lt (RU HO355.out))) (below_size (bS7 HB.out GE272.out GE273.out GE295.out GE302.out GE309.out GE317.out GE363.out)))
                have HO361 := Aside0.mk (Kd.R_lower (Kd.R_new' (Kd.R_new' (Kd.R_new' (Kd.R_new' (Kd.R_new' (Kd.R_new' (Kd.R_new' (Kd.R_new' (Kd.R_new' (Kd.R_new' (Kd.R_new' (Kd.R_new' ho1 (Kd.R_lt (RU HO_296000.out))) (Kd.R_lt (RU HO_296001.out))) (Kd.R_lt (RU HO_303000.out))) (Kd.R_lt (RU HO_303001.out))) (Kd.R_lt (RU HO_310000.out))) (Kd.R_lt (RU HO_310001.out))) (Kd.R_lt (RU HO_318000.out))) (Kd.R_lt (RU HO_318001.out))) (Kd.R_lt (RU HO346.out))) (Kd.R_lt (RU HO349.out))) (Kd.R_lt (RU HO352.out))) (Kd.R_lt (RU HO355.out))) (below_size (bS7 HB.out GE272.out GE273.out GE295.out GE302.out GE309.out GE317.out GE363.out)))
                replace HO_296000 := Aside0.mk (Kd.R_mono (Kd.R_told (Kd.R_told (Kd.R_old (RU HO_296000.out) hb) (Kd.R_base ho0)) (Kd.R_base ho1)) (fun _ h_ => h_.1))
                replace HO_296001 := Aside0.mk (Kd.R_mono (Kd.R_told (Kd.R_told (Kd.R_old (RU HO_296001.out) hb) (Kd.R_base ho0)) (Kd.R_base ho1)) (fun _ h_ => h_.1))
                replace HO_303000 := Aside0.mk (Kd.R_mono (Kd.R_told (Kd.R_told (Kd.R_old (RU HO_303000.out) hb) (Kd.R_base ho0)) (Kd.R_base ho1)) (fun _ h_ => h_.1))
                replace HO_303001 := Aside0.mk (Kd.R_mono (Kd.R_told (Kd.R_told (Kd.R_old (RU HO_303001.out) hb) (Kd.R_base ho0)) (Kd.R_base ho1)) (fun _ h_ => h_.1))
                replace HO_310000 := Aside0.mk (Kd.R_mono (Kd.R_told (Kd.R_told (Kd.R_old (RU HO_310000.out) hb) (Kd.R_base ho0)) (Kd.R_base ho1)) (fun _ h_ => h_.1))
                replace HO_310001 := Aside0.mk (Kd.R_mono (Kd.R_told (Kd.R_told (Kd.R_old (RU HO_310001.out) hb) (Kd.R_base ho0)) (Kd.R_base ho1)) (fun _ h_ => h_.1))
                replace HO_318000 := Aside0.mk (Kd.R_mono (Kd.R_told (Kd.R_told (Kd.R_old (RU HO_318000.out) hb) (Kd.R_base ho0)) (Kd.R_base ho1)) (fun _ h_ => h_.1))
                replace HO_318001 := Aside0.mk (Kd.R_mono (Kd.R_told (Kd.R_told (Kd.R_old (RU HO_318001.out) hb) (Kd.R_base ho0)) (Kd.R_base ho1)) (fun _ h_ => h_.1))
                replace HO346 := Aside0.mk (Kd.R_mono (Kd.R_told (Kd.R_told (Kd.R_old (RU HO346.out) hb) (Kd.R_base ho0)) (Kd.R_base ho1)) (fun _ h_ => h_.1))
                replace HO349 := Aside0.mk (Kd.R_mono (Kd.R_told (Kd.R_told (Kd.R_old (RU HO349.out) hb) (Kd.R_base ho0)) (Kd.R_base ho1)) (fun _ h_ => h_.1))
                replace HO352 := Aside0.mk (Kd.R_mono (Kd.R_told (Kd.R_told (Kd.R_old (RU HO352.out) hb) (Kd.R_base ho0)) (Kd.R_base ho1)) (fun _ h_ => h_.1))
                replace HO355 := Aside0.mk (Kd.R_mono (Kd.R_told (Kd.R_told (Kd.R_old (RU HO355.out) hb) (Kd.R_base ho0)) (Kd.R_base ho1)) (fun _ h_ => h_.1))
                replace BK272 := Aside0.mk (blk_below (g := gb272) (o := .cells #[.slice A0_0 l0_0.length c0_0, .slice A0_1 l0_1.length c0_1] 24 (0, 0)) (kU BK272.out) hb)
                replace BK273 := Aside0.mk (blk_below (g := gb273) (o := .cells #[.slice A1_0 l1_0.length c1_0, .slice A1_1 l1_1.length c1_1] 24 (0, 0)) (kU BK273.out) hb)
                replace BK295 := Aside0.mk (blk_below (g := gb295) (o := .cells #[.slice Ao43 t288.length co43, .slice Ao45 t291.length co45] 26 (0, 0)) (kU BK295.out) hb)
                replace BK302 := Aside0.mk (blk_below (g := gb302) (o := .cells #[.slice Ao51 t334.length co51, .slice Ao56 t335.length co56] 26 (0, 0)) (kU BK302.out) hb)
                replace BK309 := Aside0.mk (blk_below (g := gb309) (o := .cells #[.slice Ao61 t337.length co61, .slice Ao67 t338.length co67] 26 (0, 0)) (kU BK309.out) hb)
                replace BK317 := Aside0.mk (blk_below (g := gb317) (o := .cells #[.slice Ao71 t310.length co71, .slice Ao78 t313.length co78] 26 (0, 0)) (kU BK317.out) hb)
                replace BK363 := Aside0.mk (blk_below (g := gb363) (o := .cells #[.slice none 0 0, .slice none 0 0] 26 (0, 0)) (kU BK363.out) hb)
                replace HB := Aside0.mk (below_step (bS7 HB.out GE272.out GE273.out GE295.out GE302.out GE309.out GE317.out GE363.out) hb)
                (try clear hb)
                (try clear hb2)
                (try clear hk)
                (try clear hi)
                (try clear ho0)
                (try clear ho1)
                refine hK.out _ _ ⟨(blk_cell BK272.out 0).trans rfl, (blk_cell BK272.out 1).trans rfl, (blk_cell BK273.out 0).trans rfl, (blk_cell BK273.out 1).trans rfl⟩ (fun hHeld => ?_)
                clear hK K
                refine norm_ (a' := ?_) ?_ ?_
                rotate_left
                ·
                 show Act.put _ (some 99) _ = _
                 simp only [Act.put, List.setIfInBounds_toArray, List.set_cons_zero, List.set_cons_succ, i64_w, i32_w]
                 rfl
                refine pure_ (i := 5) (N := some 94) (v := ?_) (a' := ?_) #[true, true, true, true, true, true, false, false, true, false, false] rfl rfl (any_of HT_.out (by kernel_rfl)) (fun _ _ _ h => h) (Or.inl ⟨by rfl, ?_⟩) ?_ ?_
                rotate_left
                ·
                 intro w'
                 go_simp
                 with_reducible rfl
                rotate_left
                ·
                 simp only [Act.put, List.setIfInBounds_toArray, List.set_cons_zero, List.set_cons_succ, i64_w, i32_w]
                 rfl
                refine pure_ (i := 6) (N := some 100) (v := ?_) (a' := ?_) #[true, true, true, true, true, true, true, false, true, false, false] rfl rfl (any_of HT_.out (by kernel_rfl)) (fun _ _ _ h => h) (Or.inl ⟨by rfl, ?_⟩) ?_ ?_
                rotate_left
                ·
                 intro w'
                 go_simp
                 with_reducible rfl
                rotate_left
                ·
                 simp only [Act.put, List.setIfInBounds_toArray, List.set_cons_zero, List.set_cons_succ, i64_w, i32_w]
                 rfl
                refine pure_ (i := 7) (N := some 101) (v := ?_) (a' := ?_) #[true, true, true, true, true, true, true, true, true, false, false] rfl rfl (any_of HT_.out (by kernel_rfl)) (fun _ _ _ h => h) (Or.inl ⟨by rfl, ?_⟩) ?_ ?_
                rotate_left
                ·
                 intro w'
                 go_simp
                 with_reducible rfl
                rotate_left
                ·
                 simp only [Act.put, List.setIfInBounds_toArray, List.set_cons_zero, List.set_cons_succ, i64_w, i32_w]
                 rfl
                exact norm_ (by simp only [putAll, Act.put, List.setIfInBounds_toArray, List.set_cons_zero, List.set_cons_succ]) (hCont (.slice Ao163 t344.length co163, .slice Ao164 t347.length co164, .slice Ao165 t350.length co165, .slice Ao166 t353.length co166, v357, v360, gb363) _ ⟨hHeld, (by (with_reducible repeat (first | apply Kd.R_alloc | apply Kd.R_drewN | apply Kd.R_drew)); exact Kd.R_mono HO346.out (fun _ hk => ⟨hk.1.1.1.1.1.1.1.1.1.1.1.1, ⟨hk.1.1.1.2, ⟨hk.1.1.2, ⟨hk.1.2, ⟨hk.2, ⟨hk.1.1.1.1.1.1.1.1.1.1.1.2, ⟨hk.1.1.1.1.1.1.1.1.1.1.2, ⟨hk.1.1.1.1.1.1.1.1.1.2, ⟨hk.1.1.1.1.1.1.1.1.2, ⟨hk.1.1.1.1.1.1.1.2, ⟨hk.1.1.1.1.1.1.2, ⟨hk.1.1.1.1.1.2, hk.1.1.1.1.2⟩⟩⟩⟩⟩⟩⟩⟩⟩⟩⟩⟩)), (by (with_reducible repeat (first | apply Kd.R_alloc | apply Kd.R_drewN | apply Kd.R_drew)); exact Kd.R_mono HO349.out (fun _ hk => ⟨hk.1.1.1.1.1.1.1.1.1.1.1.1, ⟨hk.1.1.1.2, ⟨hk.1.1.2, ⟨hk.1.2, ⟨hk.2, ⟨hk.1.1.1.1.1.1.1.1.1.1.1.2, ⟨hk.1.1.1.1.1.1.1.1.1.1.2, ⟨hk.1.1.1.1.1.1.1.1.1.2, ⟨hk.1.1.1.1.1.1.1.1.2, ⟨hk.1.1.1.1.1.1.1.2, ⟨hk.1.1.1.1.1.1.2, ⟨hk.1.1.1.1.1.2, hk.1.1.1.1.2⟩⟩⟩⟩⟩⟩⟩⟩⟩⟩⟩⟩)), (by (with_reducible repeat (first | apply Kd.R_alloc | apply Kd.R_drewN | apply Kd.R_drew)); exact Kd.R_mono HO352.out (fun _ hk => ⟨hk.1.1.1.2, ⟨hk.1.1.2, ⟨hk.1.1.1.1.1.1.1.1.1.1.1.1, ⟨hk.1.2, ⟨hk.2, ⟨hk.1.1.1.1.1.1.1.1.1.1.1.2, ⟨hk.1.1.1.1.1.1.1.1.1.1.2, ⟨hk.1.1.1.1.1.1.1.1.1.2, ⟨hk.1.1.1.1.1.1.1.1.2, ⟨hk.1.1.1.1.1.1.1.2, ⟨hk.1.1.1.1.1.1.2, ⟨hk.1.1.1.1.1.2, hk.1.1.1.1.2⟩⟩⟩⟩⟩⟩⟩⟩⟩⟩⟩⟩)), (by (with_reducible repeat (first | apply Kd.R_alloc | apply Kd.R_drewN | apply Kd.R_drew)); exact Kd.R_mono HO355.out (fun _ hk => ⟨hk.1.1.1.2, ⟨hk.1.1.2, ⟨hk.1.1.1.1.1.1.1.1.1.1.1.1, ⟨hk.1.2, ⟨hk.2, ⟨hk.1.1.1.1.1.1.1.1.1.1.1.2, ⟨hk.1.1.1.1.1.1.1.1.1.1.2, ⟨hk.1.1.1.1.1.1.1.1.1.2, ⟨hk.1.1.1.1.1.1.1.1.2, ⟨hk.1.1.1.1.1.1.1.2, ⟨hk.1.1.1.1.1.1.2, ⟨hk.1.1.1.1.1.2, hk.1.1.1.1.2⟩⟩⟩⟩⟩⟩⟩⟩⟩⟩⟩⟩)), (by (with_reducible repeat (first | apply Kd.R_alloc | apply Kd.R_drewN | apply Kd.R_drew)); exact Kd.R_mono HO358.out (fun _ hk => ⟨hk.1.1.1.2, ⟨hk.1.1.2, ⟨hk.1.2, ⟨hk.2, ⟨hk.1.1.1.1.1.1.1.1.1.1.1.1, ⟨hk.1.1.1.1.1.1.1.1.1.1.1.2, ⟨hk.1.1.1.1.1.1.1.1.1.1.2, ⟨hk.1.1.1.1.1.1.1.1.1.2, ⟨hk.1.1.1.1.1.1.1.1.2, ⟨hk.1.1.1.1.1.1.1.2, ⟨hk.1.1.1.1.1.1.2, ⟨hk.1.1.1.1.1.2, hk.1.1.1.1.2⟩⟩⟩⟩⟩⟩⟩⟩⟩⟩⟩⟩)), (by (with_reducible repeat (first | apply Kd.R_alloc | apply Kd.R_drewN | apply Kd.R_drew)); exact Kd.R_mono HO361.out (fun _ hk => ⟨hk.1.1.1.2, ⟨hk.1.1.2, ⟨hk.1.2, ⟨hk.2, ⟨hk.1.1.1.1.1.1.1.1.1.1.1.1, ⟨hk.1.1.1.1.1.1.1.1.1.1.1.2, ⟨hk.1.1.1.1.1.1.1.1.1.1.2, ⟨hk.1.1.1.1.1.1.1.1.1.2, ⟨hk.1.1.1.1.1.1.1.1.2, ⟨hk.1.1.1.1.1.1.1.2, ⟨hk.1.1.1.1.1.1.2, ⟨hk.1.1.1.1.1.2, hk.1.1.1.1.2⟩⟩⟩⟩⟩⟩⟩⟩⟩⟩⟩⟩)), (by (with_reducible repeat (first | apply Kd.R_alloc | apply Kd.R_drewN | apply Kd.R_drew)); exact Kd.R_mono HO_296000.out (fun _ hk => ⟨hk.1.1.1.1.1.2, ⟨hk.1.1.1.1.2, ⟨hk.1.1.1.2, ⟨hk.1.1.2, ⟨hk.1.2, ⟨hk.2, ⟨hk.1.1.1.1.1.1.1, ⟨hk.1.1.1.1.1.1.2.1, ⟨hk.1.1.1.1.1.1.2.2.1, ⟨hk.1.1.1.1.1.1.2.2.2.1, ⟨hk.1.1.1.1.1.1.2.2.2.2.1, ⟨hk.1.1.1.1.1.1.2.2.2.2.2.1, hk.1.1.1.1.1.1.2.2.2.2.2.2⟩⟩⟩⟩⟩⟩⟩⟩⟩⟩⟩⟩)), (by (with_reducible repeat (first | apply Kd.R_alloc | apply Kd.R_drewN | apply Kd.R_drew)); exact Kd.R_mono HO_296001.out (fun _ hk => ⟨hk.1.1.1.1.1.2, ⟨hk.1.1.1.1.2, ⟨hk.1.1.1.2, ⟨hk.1.1.2, ⟨hk.1.2, ⟨hk.2, ⟨hk.1.1.1.1.1.1.1, ⟨hk.1.1.1.1.1.1.2.1, ⟨hk.1.1.1.1.1.1.2.2.1, ⟨hk.1.1.1.1.1.1.2.2.2.1, ⟨hk.1.1.1.1.1.1.2.2.2.2.1, ⟨hk.1.1.1.1.1.1.2.2.2.2.2.1, hk.1.1.1.1.1.1.2.2.2.2.2.2⟩⟩⟩⟩⟩⟩⟩⟩⟩⟩⟩⟩)), (by (with_reducible repeat (first | apply Kd.R_alloc | apply Kd.R_drewN | apply Kd.R_drew)); exact Kd.R_mono HO_303000.out (fun _ hk => ⟨hk.1.1.1.1.1.2, ⟨hk.1.1.1.1.2, ⟨hk.1.1.1.2, ⟨hk.1.1.2, ⟨hk.1.2, ⟨hk.2, ⟨hk.1.1.1.1.1.1.1, ⟨hk.1.1.1.1.1.1.2.1, ⟨hk.1.1.1.1.1.1.2.2.1, ⟨hk.1.1.1.1.1.1.2.2.2.1, ⟨hk.1.1.1.1.1.1.2.2.2.2.1, ⟨hk.1.1.1.1.1.1.2.2.2.2.2.1, hk.1.1.1.1.1.1.2.2.2.2.2.2⟩⟩⟩⟩⟩⟩⟩⟩⟩⟩⟩⟩)), (by (with_reducible repeat (first | apply Kd.R_alloc | apply Kd.R_drewN | apply Kd.R_drew)); exact Kd.R_mono HO_303001.out (fun _ hk => ⟨hk.1.1.1.1.1.2, ⟨hk.1.1.1.1.2, ⟨hk.1.1.1.2, ⟨hk.1.1.2, ⟨hk.1.2, ⟨hk.2, ⟨hk.1.1.1.1.1.1.1, ⟨hk.1.1.1.1.1.1.2.1, ⟨hk.1.1.1.1.1.1.2.2.1, ⟨hk.1.1.1.1.1.1.2.2.2.1, ⟨hk.1.1.1.1.1.1.2.2.2.2.1, ⟨hk.1.1.1.1.1.1.2.2.2.2.2.1, hk.1.1.1.1.1.1.2.2.2.2.2.2⟩⟩⟩⟩⟩⟩⟩⟩⟩⟩⟩⟩)), (by (with_reducible repeat (first | apply Kd.R_alloc | apply Kd.R_drewN | apply Kd.R_drew)); exact Kd.R_mono HO_310000.out (fun _ hk => ⟨hk.1.1.1.1.1.2, ⟨hk.1.1.1.1.2, ⟨hk.1.1.1.2, ⟨hk.1.1.2, ⟨hk.1.2, ⟨hk.2, ⟨hk.1.1.1.1.1.1.1, ⟨hk.1.1.1.1.1.1.2.1, ⟨hk.1.1.1.1.1.1.2.2.1, ⟨hk.1.1.1.1.1.1.2.2.2.1, ⟨hk.1.1.1.1.1.1.2.2.2.2.1, ⟨hk.1.1.1.1.1.1.2.2.2.2.2.1, hk.1.1.1.1.1.1.2.2.2.2.2.2⟩⟩⟩⟩⟩⟩⟩⟩⟩⟩⟩⟩)), (by (with_reducible repeat (first | apply Kd.R_alloc | apply Kd.R_drewN | apply Kd.R_drew)); exact Kd.R_mono HO_310001.out (fun _ hk => ⟨hk.1.1.1.1.1.2, ⟨hk.1.1.1.1.2, ⟨hk.1.1.1.2, ⟨hk.1.1.2, ⟨hk.1.2, ⟨hk.2, ⟨hk.1.1.1.1.1.1.1, ⟨hk.1.1.1.1.1.1.2.1, ⟨hk.1.1.1.1.1.1.2.2.1, ⟨hk.1.1.1.1.1.1.2.2.2.1, ⟨hk.1.1.1.1.1.1.2.2.2.2.1, ⟨hk.1.1.1.1.1.1.2.2.2.2.2.1, hk.1.1.1.1.1.1.2.2.2.2.2.2⟩⟩⟩⟩⟩⟩⟩⟩⟩⟩⟩⟩)), (by (with_reducible repeat (first | apply Kd.R_alloc | apply Kd.R_drewN | apply Kd.R_drew)); exact Kd.R_mono HO_318000.out (fun _ hk => ⟨hk.1.1.1.1.1.2, ⟨hk.1.1.1.1.2, ⟨hk.1.1.1.2, ⟨hk.1.1.2, ⟨hk.1.2, ⟨hk.2, ⟨hk.1.1.1.1.1.1.1, ⟨hk.1.1.1.1.1.1.2.1, ⟨hk.1.1.1.1.1.1.2.2.1, ⟨hk.1.1.1.1.1.1.2.2.2.1, ⟨hk.1.1.1.1.1.1.2.2.2.2.1, ⟨hk.1.1.1.1.1.1.2.2.2.2.2.1, hk.1.1.1.1.1.1.2.2.2.2.2.2⟩⟩⟩⟩⟩⟩⟩⟩⟩⟩⟩⟩)), (by (with_reducible repeat (first | apply Kd.R_alloc | apply Kd.R_drewN | apply Kd.R_drew)); exact Kd.R_mono HO_318001.out (fun _ hk => ⟨hk.1.1.1.1.1.2, ⟨hk.1.1.1.1.2, ⟨hk.1.1.1.2, ⟨hk.1.1.2, ⟨hk.1.2, ⟨hk.2, ⟨hk.1.1.1.1.1.1.1, ⟨hk.1.1.1.1.1.1.2.1, ⟨hk.1.1.1.1.1.1.2.2.1, ⟨hk.1.1.1.1.1.1.2.2.2.1, ⟨hk.1.1.1.1.1.1.2.2.2.2.1, ⟨hk.1.1.1.1.1.1.2.2.2.2.2.1, hk.1.1.1.1.1.1.2.2.2.2.2.2⟩⟩⟩⟩⟩⟩⟩⟩⟩⟩⟩⟩)), (kU BK272.out), (kU BK273.out), (kU BK295.out), (kU BK302.out), (kU BK309.out), (kU BK317.out), (kU BK363.out), GW363.out, GE363.out, NB272_363.out, NB363_272.out, NB273_363.out, NB363_273.out, NB295_363.out, NB363_295.out, NB302_363.out, NB363_302.out, NB309_363.out, NB363_309.out, NB317_363.out, NB363_317.out, (bS7 HB.out GE272.out GE273.out GE295.out GE302.out GE309.out GE317.out GE363.out)⟩)
              ·
               skip
               refine box_step ?hg (N := 15) ?hd (cs := #[.slice none 0 0, .slice none 0 0]) (t := 26) ?hr ?_; (case hd => rfl); (case hg => rfl); (case hr => first | (go_simp; done) | (go_simp; rfl))
               intro gb363 hg w160 hbox hb
               replace HO_296000 := Aside0.mk (Kd.R_below (RU HO_296000.out) hb)
               replace HO_296001 := Aside0.mk (Kd.R_below (RU HO_296001.out) hb)
               replace HO_303000 := Aside0.mk (Kd.R_below (RU HO_303000.out) hb)
               replace HO_303001 := Aside0.mk (Kd.R_below (RU HO_303001.out) hb)
               replace HO_310000 := Aside0.mk (Kd.R_below (RU HO_310000.out) hb)
               replace HO_310001 := Aside0.mk (Kd.R_below (RU HO_310001.out) hb)
               replace HO_318000 := Aside0.mk (Kd.R_below (RU HO_318000.out) hb)
               replace HO_318001 := Aside0.mk (Kd.R_below (RU HO_318001.out) hb)
               have BK363 := Aside0.mk (hbox)
               have GW363 := Aside0.mk ((by rw [hg]; exact (below_size (bS6 HB.out GE272.out GE273.out GE295.out GE302.out GE309.out GE317.out)) : w.heap.size ≤ gb363))
               have GE363 := Aside0.mk ((by rw [hg]; exact (below_size (bS6 HB.out GE272.out GE273.out GE295.out GE302.out GE309.out GE317.out)) : w.heap.size ≤ gb363))
               replace HB := Aside0.mk (below_step (bS6 HB.out GE272.out GE273.out GE295.out GE302.out GE309.out GE317.out) hb)
               have NB272_363 := Aside0.mk ((by rw [hg]; exact Nat.ne_of_lt (blk_lt (g := gb272) (o := .cells #[.slice A0_0 l0_0.length c0_0, .slice A0_1 l0_1.length c0_1] 24 (0, 0)) (kU BK272.out)) : gb272 ≠ gb363))
               have NB363_272 := Aside0.mk ((by rw [hg]; exact Nat.ne_of_gt (blk_lt (g := gb272) (o := .cells #[.slice A0_0 l0_0.length c0_0, .slice A0_1 l0_1.length c0_1] 24 (0, 0)) (kU BK272.out)) : gb363 ≠ gb272))
               replace BK272 := Aside0.mk (blk_below (g := gb272) (o := .cells #[.slice A0_0 l0_0.length c0_0, .slice A0_1 l0_1.length c0_1] 24 (0, 0)) (kU BK272.out) hb)
               have NB273_363 := Aside0.mk ((by rw [hg]; exact Nat.ne_of_lt (blk_lt (g := gb273) (o := .cells #[.slice A1_0 l1_0.length c1_0, .slice A1_1 l1_1.length c1_1] 24 (0, 0)) (kU BK273.out)) : gb273 ≠ gb363))
               have NB363_273 := Aside0.mk ((by rw [hg]; exact Nat.ne_of_gt (blk_lt (g := gb273) (o := .cells #[.slice A1_0 l1_0.length c1_0, .slice A1_1 l1_1.length c1_1] 24 (0, 0)) (kU BK273.out)) : gb363 ≠ gb273))
               replace BK273 := Aside0.mk (blk_below (g := gb273) (o := .cells #[.slice A1_0 l1_0.length c1_0, .slice A1_1 l1_1.length c1_1] 24 (0, 0)) (kU BK273.out) hb)
               have NB295_363 := Aside0.mk ((by rw [hg]; exact Nat.ne_of_lt (blk_lt (g := gb295) (o := .cells #[.slice Ao43 t288.length co43, .slice Ao45 t291.length co45] 26 (0, 0)) (kU BK295.out)) : gb295 ≠ gb363))
               have NB363_295 := Aside0.mk ((by rw [hg]; exact Nat.ne_of_gt (blk_lt (g := gb295) (o := .cells #[.slice Ao43 t288.length co43, .slice Ao45 t291.length co45] 26 (0, 0)) (kU BK295.out)) : gb363 ≠ gb295))
               replace BK295 := Aside0.mk (blk_below (g := gb295) (o := .cells #[.slice Ao43 t288.length co43, .slice Ao45 t291.length co45] 26 (0, 0)) (kU BK295.out) hb)
               have NB302_363 := Aside0.mk ((by rw [hg]; exact Nat.ne_of_lt (blk_lt (g := gb302) (o := .cells #[.slice Ao51 t334.length co51, .slice Ao56 t335.length co56] 26 (0, 0)) (kU BK302.out)) : gb302 ≠ gb363))
               have NB363_302 := Aside0.mk ((by rw [hg]; exact Nat.ne_of_gt (blk_lt (g := gb302) (o := .cells #[.slice Ao51 t334.length co51, .slice Ao56 t335.length co56] 26 (0, 0)) (kU BK302.out)) : gb363 ≠ gb302))
               replace BK302 := Aside0.mk (blk_below (g := gb302) (o := .cells #[.slice Ao51 t334.length co51, .slice Ao56 t335.length co56] 26 (0, 0)) (kU BK302.out) hb)
               have NB309_363 := Aside0.mk ((by rw [hg]; exact Nat.ne_of_lt (blk_lt (g := gb309) (o := .cells #[.slice Ao61 t337.length co61, .slice Ao67 t338.length co67] 26 (0, 0)) (kU BK309.out)) : gb309 ≠ gb363))
               have NB363_309 := Aside0.mk ((by rw [hg]; exact Nat.ne_of_gt (blk_lt (g := gb309) (o := .cells #[.slice Ao61 t337.length co61, .slice Ao67 t338.length co67] 26 (0, 0)) (kU BK309.out)) : gb363 ≠ gb309))
               replace BK309 := Aside0.mk (blk_below (g := gb309) (o := .cells #[.slice Ao61 t337.length co61, .slice Ao67 t338.length co67] 26 (0, 0)) (kU BK309.out) hb)
               have NB317_363 := Aside0.mk ((by rw [hg]; exact Nat.ne_of_lt (blk_lt (g := gb317) (o := .cells #[.slice Ao71 t310.length co71, .slice Ao78 t313.length co78] 26 (0, 0)) (kU BK317.out)) : gb317 ≠ gb363))
               have NB363_317 := Aside0.mk ((by rw [hg]; exact Nat.ne_of_gt (blk_lt (g := gb317) (o := .cells #[.slice Ao71 t310.length co71, .slice Ao78 t313.length co78] 26 (0, 0)) (kU BK317.out)) : gb363 ≠ gb317))
               replace BK317 := Aside0.mk (blk_below (g := gb317) (o := .cells #[.slice Ao71 t310.length co71, .slice Ao78 t313.length co78] 26 (0, 0)) (kU BK317.out) hb)
               clear hb hbox hg
               refine hK.out _ _ ⟨(blk_cell BK272.out 0).trans rfl, (blk_cell BK272.out 1).trans rfl, (blk_cell BK273.out 0).trans rfl, (blk_cell BK273.out 1).trans rfl⟩ (fun hHeld => ?_)
               clear hK K
               refine norm_ (a' := ?_) ?_ ?_
               rotate_left
               ·
                show Act.put _ (some 15) _ = _
                simp only [Act.put, List.setIfInBounds_toArray, List.set_cons_zero, List.set_cons_succ, i64_w, i32_w]
                rfl
               refine one_ (i := 1) (N := some 96) #[true, true, true, false, false, false, false, false, true, false, false] rfl rfl (one_of HT_.out (by kernel_rfl)) (by decide) (fun K hK => ?_)
               refine goes_ Try.func17 (by kernel_rfl) rfl #[.agg #[.slice A0_0 l0_0.length c0_0, .slice A0_1 l0_1.length c0_1]] (by rfl) rfl rfl (by (try simp only [List.map_toArray, List.map_cons, List.map_nil]); first | done | rfl | (simp only [List.length_drop, List.length_take]; rfl)) ?_
               with_reducible refine (laws_toArray.calls kj101 _ _ l0_0 _ _ l0_1 t344 t347 _ ?side1 ?side2 ?side3 ?side4 A146.out).mono ?_
               (case side1 => exact cU (Kd.C_below HR0_0.out HB.out))
               (case side2 => exact HC0_0.out)
               (case side3 => exact cU (Kd.C_below HR0_1.out HB.out))
               (case side4 => exact HC0_1.out)
               rintro e w161 ⟨v345, v348, rfl, ho0, ho1, hb⟩
               refine ⟨_, rfl, ?_⟩
               have HO346 := Aside0.mk (Kd.R_lower (Kd.R_new' (Kd.R_new' (Kd.R_new' (Kd.R_new' (Kd.R_new' (Kd.R_new' (Kd.R_new' (Kd.R_new' ho0 (Kd.R_lt (RU HO_296000.out))) (Kd.R_lt (RU HO_296001.out))) (Kd.R_lt (RU HO_303000.out))) (Kd.R_lt (RU HO_303001.out))) (Kd.R_lt (RU HO_310000.out))) (Kd.R_lt (RU HO_310001.out))) (Kd.R_lt (RU HO_318000.out))) (Kd.R_lt (RU HO_318001.out))) (below_size (bS7 HB.out GE272.out GE273.out GE295.out GE302.out GE309.out GE317.out GE363.out)))
               have HO349 := Aside0.mk (Kd.R_lower (Kd.R_new' (Kd.R_new' (Kd.R_new' (Kd.R_new' (Kd.R_new' (Kd.R_new' (Kd.R_new' (Kd.R_new' ho1 (Kd.R_lt (RU HO_296000.out))) (Kd.R_lt (RU HO_296001.out))) (Kd.R_lt (RU HO_303000.out))) (Kd.R_lt (RU HO_303001.out))) (Kd.R_lt (RU HO_310000.out))) (Kd.R_lt (RU HO_310001.out))) (Kd.R_lt (RU HO_318000.out))) (Kd.R_lt (RU HO_318001.out))) (below_size (bS7 HB.out GE272.out GE273.out GE295.out GE302.out GE309.out GE317.out GE363.out)))
               replace HO_296000 := Aside0.mk (Kd.R_mono (Kd.R_told (Kd.R_told (Kd.R_old (RU HO_296000.out) hb) (Kd.R_base ho0)) (Kd.R_base ho1)) (fun _ h_ => h_.1))
               replace HO_296001 := Aside0.mk (Kd.R_mono (Kd.R_told (Kd.R_told (Kd.R_old (RU HO_296001.out) hb) (Kd.R_base ho0)) (Kd.R_base ho1)) (fun _ h_ => h_.1))
               replace HO_303000 := Aside0.mk (Kd.R_mono (Kd.R_told (Kd.R_told (Kd.R_old (RU HO_303000.out) hb) (Kd.R_base ho0)) (Kd.R_base ho1)) (fun _ h_ => h_.1))
               replace HO_303001 := Aside0.mk (Kd.R_mono (Kd.R_told (Kd.R_told (Kd.R_old (RU HO_303001.out) hb) (Kd.R_base ho0)) (Kd.R_base ho1)) (fun _ h_ => h_.1))
               replace HO_310000 := Aside0.mk (Kd.R_mono (Kd.R_told (Kd.R_told (Kd.R_old (RU HO_310000.out) hb) (Kd.R_base ho0)) (Kd.R_base ho1)) (fun _ h_ => h_.1))
               replace HO_310001 := Aside0.mk (Kd.R_mono (Kd.R_told (Kd.R_told (Kd.R_old (RU HO_310001.out) hb) (Kd.R_base ho0)) (Kd.R_base ho1)) (fun _ h_ => h_.1))
               replace HO_318000 := Aside0.mk (Kd.R_mono (Kd.R_told (Kd.R_told (Kd.R_old (RU HO_318000.out) hb) (Kd.R_base ho0)) (Kd.R_base ho1)) (fun _ h_ => h_.1))
               replace HO_318001 := Aside0.mk (Kd.R_mono (Kd.R_told (Kd.R_told (Kd.R_old (RU HO_318001.out) hb) (Kd.R_base ho0)) (Kd.R_base ho1)) (fun _ h_ => h_.1))
               replace BK272 := Aside0.mk (blk_below (g := gb272) (o := .cells #[.slice A0_0 l0_0.length c0_0, .slice A0_1 l0_1.length c0_1] 24 (0, 0)) (kU BK272.out) hb)
               replace BK273 := Aside0.mk (blk_below (g := gb273) (o := .cells #[.slice A1_0 l1_0.length c1_0, .slice A1_1 l1_1.length c1_1] 24 (0, 0)) (kU BK273.out) hb)
               replace BK295 := Aside0.mk (blk_below (g := gb295) (o := .cells #[.slice Ao43 t288.length co43, .slice Ao45 t291.length co45] 26 (0, 0)) (kU BK295.out) hb)
               replace BK302 := Aside0.mk (blk_below (g := gb302) (o := .cells #[.slice Ao51 t334.length co51, .slice Ao56 t335.length co56] 26 (0, 0)) (kU BK302.out) hb)
               replace BK309 := Aside0.mk (blk_below (g := gb309) (o := .cells #[.slice Ao61 t337.length co61, .slice Ao67 t338.length co67] 26 (0, 0)) (kU BK309.out) hb)
               replace BK317 := Aside0.mk (blk_below (g := gb317) (o := .cells #[.slice Ao71 t310.length co71, .slice Ao78 t313.length co78] 26 (0, 0)) (kU BK317.out) hb)
               replace BK363 := Aside0.mk (blk_below (g := gb363) (o := .cells #[.slice none 0 0, .slice none 0 0] 26 (0, 0)) (kU BK363.out) hb)
               replace HB := Aside0.mk (below_step (bS7 HB.out GE272.out GE273.out GE295.out GE302.out GE309.out GE317.out GE363.out) hb)
               (try clear hb)
               (try clear hb2)
               (try clear hk)
               (try clear hi)
               (try clear ho0)
               (try clear ho1)
               refine hK.out _ _ ⟨(blk_cell BK272.out 0).trans rfl, (blk_cell BK272.out 1).trans rfl, (blk_cell BK273.out 0).trans rfl, (blk_cell BK273.out 1).trans rfl⟩ (fun hHeld => ?_)
               clear hK K
               refine norm_ (a' := ?_) ?_ ?_
               rotate_left
               ·
                show Act.put _ (some 96) _ = _
                simp only [Act.put, List.setIfInBounds_toArray, List.set_cons_zero, List.set_cons_succ, i64_w, i32_w]
                rfl
               refine one_ (i := 3) (N := some 98) #[true, true, true, true, false, false, false, false, true, false, false] rfl rfl (one_of HT_.out (by kernel_rfl)) (by decide) (fun K hK => ?_)
               refine goes_ Try.func17 (by kernel_rfl) rfl #[.agg #[.slice A1_0 l1_0.length c1_0, .slice A1_1 l1_1.length c1_1]] (by rfl) rfl rfl (by (try simp only [List.map_toArray, List.map_cons, List.map_nil]); first | done | rfl | (simp only [List.length_drop, List.length_take]; rfl)) ?_
               with_reducible refine (laws_toArray.calls kj101 _ _ l1_0 _ _ l1_1 t350 t353 _ ?side1 ?side2 ?side3 ?side4 A147.out).mono ?_
               (case side1 => exact cU (Kd.C_below HR1_0.out HB.out))
               (case side2 => exact HC1_0.out)
               (case side3 => exact cU (Kd.C_below HR1_1.out HB.out))
               (case side4 => exact HC1_1.out)
               rintro e w162 ⟨v351, v354, rfl, ho0, ho1, hb⟩
               refine ⟨_, rfl, ?_⟩
               have HO352 := Aside0.mk (Kd.R_lower (Kd.R_new' (Kd.R_new' (Kd.R_new' (Kd.R_new' (Kd.R_new' (Kd.R_new' (Kd.R_new' (Kd.R_new' (Kd.R_new' (Kd.R_new' ho0 (Kd.R_lt (RU HO_296000.out))) (Kd.R_lt (RU HO_296001.out))) (Kd.R_lt (RU HO_303000.out))) (Kd.R_lt (RU HO_303001.out))) (Kd.R_lt (RU HO_310000.out))) (Kd.R_lt (RU HO_310001.out))) (Kd.R_lt (RU HO_318000.out))) (Kd.R_lt (RU HO_318001.out))) (Kd.R_lt (RU HO346.out))) (Kd.R_lt (RU HO349.out))) (below_size (bS7 HB.out GE272.out GE273.out GE295.out GE302.out GE309.out GE317.out GE363.out)))
               have HO355 := Aside0.mk (Kd.R_lower (Kd.R_new' (Kd.R_new' (Kd.R_new' (Kd.R_new' (Kd.R_new' (Kd.R_new' (Kd.R_new' (Kd.R_new' (Kd.R_new' (Kd.R_new' ho1 (Kd.R_lt (RU HO_296000.out))) (Kd.R_lt (RU HO_296001.out))) (Kd.R_lt (RU HO_303000.out))) (Kd.R_lt (RU HO_303001.out))) (Kd.R_lt (RU HO_310000.out))) (Kd.R_lt (RU HO_310001.out))) (Kd.R_lt (RU HO_318000.out))) (Kd.R_lt (RU HO_318001.out))) (Kd.R_lt (RU HO346.out))) (Kd.R_lt (RU HO349.out))) (below_size (bS7 HB.out GE272.out GE273.out GE295.out GE302.out GE309.out GE317.out GE363.out)))
               replace HO_296000 := Aside0.mk (Kd.R_mono (Kd.R_told (Kd.R_told (Kd.R_old (RU HO_296000.out) hb) (Kd.R_base ho0)) (Kd.R_base ho1)) (fun _ h_ => h_.1))
               replace HO_296001 := Aside0.mk (Kd.R_mono (Kd.R_told (Kd.R_told (Kd.R_old (RU HO_296001.out) hb) (Kd.R_base ho0)) (Kd.R_base ho1)) (fun _ h_ => h_.1))
               replace HO_303000 := Aside0.mk (Kd.R_mono (Kd.R_told (Kd.R_told (Kd.R_old (RU HO_303000.out) hb) (Kd.R_base ho0)) (Kd.R_base ho1)) (fun _ h_ => h_.1))
               replace HO_303001 := Aside0.mk (Kd.R_mono (Kd.R_told (Kd.R_told (Kd.R_old (RU HO_303001.out) hb) (Kd.R_base ho0)) (Kd.R_base ho1)) (fun _ h_ => h_.1))
               replace HO_310000 := Aside0.mk (Kd.R_mono (Kd.R_told (Kd.R_told (Kd.R_old (RU HO_310000.out) hb) (Kd.R_base ho0)) (Kd.R_base ho1)) (fun _ h_ => h_.1))
               replace HO_310001 := Aside0.mk (Kd.R_mono (Kd.R_told (Kd.R_told (Kd.R_old (RU HO_310001.out) hb) (Kd.R_base ho0)) (Kd.R_base ho1)) (fun _ h_ => h_.1))
               replace HO_318000 := Aside0.mk (Kd.R_mono (Kd.R_told (Kd.R_told (Kd.R_old (RU HO_318000.out) hb) (Kd.R_base ho0)) (Kd.R_base ho1)) (fun _ h_ => h_.1))
               replace HO_318001 := Aside0.mk (Kd.R_mono (Kd.R_told (Kd.R_told (Kd.R_old (RU HO_318001.out) hb) (Kd.R_base ho0)) (Kd.R_base ho1)) (fun _ h_ => h_.1))
               replace HO346 := Aside0.mk (Kd.R_mono (Kd.R_told (Kd.R_told (Kd.R_old (RU HO346.out) hb) (Kd.R_base ho0)) (Kd.R_base ho1)) (fun _ h_ => h_.1))
               replace HO349 := Aside0.mk (Kd.R_mono (Kd.R_told (Kd.R_told (Kd.R_old (RU HO349.out) hb) (Kd.R_base ho0)) (Kd.R_base ho1)) (fun _ h_ => h_.1))
               replace BK272 := Aside0.mk (blk_below (g := gb272) (o := .cells #[.slice A0_0 l0_0.length c0_0, .slice A0_1 l0_1.length c0_1] 24 (0, 0)) (kU BK272.out) hb)
               replace BK273 := Aside0.mk (blk_below (g := gb273) (o := .cells #[.slice A1_0 l1_0.length c1_0, .slice A1_1 l1_1.length c1_1] 24 (0, 0)) (kU BK273.out) hb)
               replace BK295 := Aside0.mk (blk_below (g := gb295) (o := .cells #[.slice Ao43 t288.length co43, .slice Ao45 t291.length co45] 26 (0, 0)) (kU BK295.out) hb)
               replace BK302 := Aside0.mk (blk_below (g := gb302) (o := .cells #[.slice Ao51 t334.length co51, .slice Ao56 t335.length co56] 26 (0, 0)) (kU BK302.out) hb)
               replace BK309 := Aside0.mk (blk_below (g := gb309) (o := .cells #[.slice Ao61 t337.length co61, .slice Ao67 t338.length co67] 26 (0, 0)) (kU BK309.out) hb)
               replace BK317 := Aside0.mk (blk_below (g := gb317) (o := .cells #[.slice Ao71 t310.length co71, .slice Ao78 t313.length co78] 26 (0, 0)) (kU BK317.out) hb)
               replace BK363 := Aside0.mk (blk_below (g := gb363) (o := .cells #[.slice none 0 0, .slice none 0 0] 26 (0, 0)) (kU BK363.out) hb)
               replace HB := Aside0.mk (below_step (bS7 HB.out GE272.out GE273.out GE295.out GE302.out GE309.out GE317.out GE363.out) hb)
               (try clear hb)
               (try clear hb2)
               (try clear hk)
               (try clear hi)
               (try clear ho0)
               (try clear ho1)
               obtain ⟨Ao163, co163, eo163⟩ := Kd.R_slice HO346.out
               (first | subst eo163 | (injection eo163 with f1_ f2_ f3_; have f4_ := f1_.symm; have f5_ := f3_.symm; clear f1_ f2_ f3_; subst f4_; subst f5_))
               obtain ⟨Ao164, co164, eo164⟩ := Kd.R_slice HO349.out
               (first | subst eo164 | (injection eo164 with f1_ f2_ f3_; have f4_ := f1_.symm; have f5_ := f3_.symm; clear f1_ f2_ f3_; subst f4_; subst f5_))
               obtain ⟨Ao165, co165, eo165⟩ := Kd.R_slice HO352.out
               (first | subst eo165 | (injection eo165 with f1_ f2_ f3_; have f4_ := f1_.symm; have f5_ := f3_.symm; clear f1_ f2_ f3_; subst f4_; subst f5_))
               obtain ⟨Ao166, co166, eo166⟩ := Kd.R_slice HO355.out
               (first | subst eo166 | (injection eo166 with f1_ f2_ f3_; have f4_ := f1_.symm; have f5_ := f3_.symm; clear f1_ f2_ f3_; subst f4_; subst f5_))
               refine hK.out _ _ ⟨(blk_cell BK272.out 0).trans rfl, (blk_cell BK272.out 1).trans rfl, (blk_cell BK273.out 0).trans rfl, (blk_cell BK273.out 1).trans rfl⟩ (fun hHeld => ?_)
               clear hK K
               refine norm_ (a' := ?_) ?_ ?_
               rotate_left
               ·
                show Act.put _ (some 98) _ = _
                simp only [Act.put, List.setIfInBounds_toArray, List.set_cons_zero, List.set_cons_succ, i64_w, i32_w]
                rfl
               refine one_ (i := 4) (N := some 99) #[true, true, true, true, true, false, false, false, true, false, false] rfl rfl (one_of HT_.out (by kernel_rfl)) (by decide) (fun K hK => ?_)
               refine goes_ Try.func44 (by kernel_rfl) rfl #[.agg #[.slice Ao163 t344.length co163, .slice Ao164 t347.length co164], .agg #[.slice Ao165 t350.length co165, .slice Ao166 t353.length co166]] (by rfl) rfl rfl (by (try simp only [List.map_toArray, List.map_cons, List.map_nil]); first | done | rfl | (simp only [List.length_drop, List.length_take]; rfl)) ?_
               with_reducible refine (impl_Copy.calls kj101 _ _ t344 _ _ t347 _ _ t350 _ _ t353 t356 t359 t362 _ ?side1 ?side2 ?side3 ?side4 ?side5 ?side6 ?side7 ?side8 A148.out).mono ?_
               (case side1 => exact cU (Kd.R_reads' HO346.out).2.2)
               (case side2 => exact (Kd.R_reads' HO346.out).2.1)
               (case side3 => exact cU (Kd.R_reads' HO349.out).2.2)
               (case side4 => exact (Kd.R_reads' HO349.out).2.1)
               (case side5 => exact cU (Kd.R_reads' HO352.out).2.2)
               (case side6 => exact (Kd.R_reads' HO352.out).2.1)
               (case side7 => exact cU (Kd.R_reads' HO355.out).2.2)
               (case side8 => exact (Kd.R_reads' HO355.out).2.1)
               rintro e w167 ⟨v357, v360, rfl, ho0, ho1, hb⟩
               refine ⟨_, rfl, ?_⟩
               have HO358 := Aside0.mk (Kd.R_lower (Kd.R_new' (Kd.R_new' (Kd.R_new' (Kd.R_new' (Kd.R_new' (Kd.R_new' (Kd.R_new' (Kd.R_new' (Kd.R_new' (Kd.R_new' (Kd.R_new' (Kd.R_new' ho0 (Kd.R_lt (RU HO_296000.out))) (Kd.R_lt (RU HO_296001.out))) (Kd.R_lt (RU HO_303000.out))) (Kd.R_lt (RU HO_303001.out))) (Kd.R_lt (RU HO_310000.out))) (Kd.R_lt (RU HO_310001.out))) (Kd.R_lt (RU HO_318000.out))) (Kd.R_lt (RU HO_318001.out))) (Kd.R_lt (RU HO346.out))) (Kd.R_lt (RU HO349.out))) (Kd.R_lt (RU HO352.out))) (Kd.R_lt (RU HO355.out))) (below_size (bS7 HB.out GE272.out GE273.out GE295.out GE302.out GE309.out GE317.out GE363.out)))
               have HO361 := Aside0.mk (Kd.R_lower (Kd.R_new' (Kd.R_new' (Kd.R_new' (Kd.R_new' (Kd.R_new' (Kd.R_new' (Kd.R_new' (Kd.R_new' (Kd.R_new' (Kd.R_new' (Kd.R_new' (Kd.R_new' ho1 (Kd.R_lt (RU HO_296000.out))) (Kd.R_lt (RU HO_296001.out))) (Kd.R_lt (RU HO_303000.out))) (Kd.R_lt (RU HO_303001.out))) (Kd.R_lt (RU HO_310000.out))) (Kd.R_lt (RU HO_310001.out))) (Kd.R_lt (RU HO_318000.out))) (Kd.R_lt (RU HO_318001.out))) (Kd.R_lt (RU HO346.out))) (Kd.R_lt (RU HO349.out))) (Kd.R_lt (RU HO352.out))) (Kd.R_lt (RU HO355.out))) (below_size (bS7 HB.out GE272.out GE273.out GE295.out GE302.out GE309.out GE317.out GE363.out)))
               replace HO_296000 := Aside0.mk (Kd.R_mono (Kd.R_told (Kd.R_told (Kd.R_old (RU HO_296000.out) hb) (Kd.R_base ho0)) (Kd.R_base ho1)) (fun _ h_ => h_.1))
               replace HO_296001 := Aside0.mk (Kd.R_mono (Kd.R_told (Kd.R_told (Kd.R_old (RU HO_296001.out) hb) (Kd.R_base ho0)) (Kd.R_base ho1)) (fun _ h_ => h_.1))
               replace HO_303000 := Aside0.mk (Kd.R_mono (Kd.R_told (Kd.R_told (Kd.R_old (RU HO_303000.out) hb) (Kd.R_base ho0)) (Kd.R_base ho1)) (fun _ h_ => h_.1))
               replace HO_303001 := Aside0.mk (Kd.R_mono (Kd.R_told (Kd.R_told (Kd.R_old (RU HO_303001.out) hb) (Kd.R_base ho0)) (Kd.R_base ho1)) (fun _ h_ => h_.1))
               replace HO_310000 := Aside0.mk (Kd.R_mono (Kd.R_told (Kd.R_told (Kd.R_old (RU HO_310000.out) hb) (Kd.R_base ho0)) (Kd.R_base ho1)) (fun _ h_ => h_.1))
               replace HO_310001 := Aside0.mk (Kd.R_mono (Kd.R_told (Kd.R_told (Kd.R_old (RU HO_310001.out) hb) (Kd.R_base ho0)) (Kd.R_base ho1)) (fun _ h_ => h_.1))
               replace HO_318000 := Aside0.mk (Kd.R_mono (Kd.R_told (Kd.R_told (Kd.R_old (RU HO_318000.out) hb) (Kd.R_base ho0)) (Kd.R_base ho1)) (fun _ h_ => h_.1))
               replace HO_318001 := Aside0.mk (Kd.R_mono (Kd.R_told (Kd.R_told (Kd.R_old (RU HO_318001.out) hb) (Kd.R_base ho0)) (Kd.R_base ho1)) (fun _ h_ => h_.1))
               replace HO346 := Aside0.mk (Kd.R_mono (Kd.R_told (Kd.R_told (Kd.R_old (RU HO346.out) hb) (Kd.R_base ho0)) (Kd.R_base ho1)) (fun _ h_ => h_.1))
               replace HO349 := Aside0.mk (Kd.R_mono (Kd.R_told (Kd.R_told (Kd.R_old (RU HO349.out) hb) (Kd.R_base ho0)) (Kd.R_base ho1)) (fun _ h_ => h_.1))
               replace HO352 := Aside0.mk (Kd.R_mono (Kd.R_told (Kd.R_told (Kd.R_old (RU HO352.out) hb) (Kd.R_base ho0)) (Kd.R_base ho1)) (fun _ h_ => h_.1))
               replace HO355 := Aside0.mk (Kd.R_mono (Kd.R_told (Kd.R_told (Kd.R_old (RU HO355.out) hb) (Kd.R_base ho0)) (Kd.R_base ho1)) (fun _ h_ => h_.1))
               replace BK272 := Aside0.mk (blk_below (g := gb272) (o := .cells #[.slice A0_0 l0_0.length c0_0, .slice A0_1 l0_1.length c0_1] 24 (0, 0)) (kU BK272.out) hb)
               replace BK273 := Aside0.mk (blk_below (g := gb273) (o := .cells #[.slice A1_0 l1_0.length c1_0, .slice A1_1 l1_1.length c1_1] 24 (0, 0)) (kU BK273.out) hb)
               replace BK295 := Aside0.mk (blk_below (g := gb295) (o := .cells #[.slice Ao43 t288.length co43, .slice Ao45 t291.length co45] 26 (0, 0)) (kU BK295.out) hb)
               replace BK302 := Aside0.mk (blk_below (g := gb302) (o := .cells #[.slice Ao51 t334.length co51, .slice Ao56 t335.length co56] 26 (0, 0)) (kU BK302.out) hb)
               replace BK309 := Aside0.mk (blk_below (g := gb309) (o := .cells #[.slice Ao61 t337.length co61, .slice Ao67 t338.length co67] 26 (0, 0)) (kU BK309.out) hb)
               replace BK317 := Aside0.mk (blk_below (g := gb317) (o := .cells #[.slice Ao71 t310.length co71, .slice Ao78 t313.length co78] 26 (0, 0)) (kU BK317.out) hb)
               replace BK363 := Aside0.mk (blk_below (g := gb363) (o := .cells #[.slice none 0 0, .slice none 0 0] 26 (0, 0)) (kU BK363.out) hb)
               replace HB := Aside0.mk (below_step (bS7 HB.out GE272.out GE273.out GE295.out GE302.out GE309.out GE317.out GE363.out) hb)
               (try clear hb)
               (try clear hb2)
               (try clear hk)
               (try clear hi)
               (try clear ho0)
               (try clear ho1)
               refine hK.out _ _ ⟨(blk_cell BK272.out 0).trans rfl, (blk_cell BK272.out 1).trans rfl, (blk_cell BK273.out 0).trans rfl, (blk_cell BK273.out 1).trans rfl⟩ (fun hHeld => ?_)
               clear hK K
               refine norm_ (a' := ?_) ?_ ?_
               rotate_left
               ·
                show Act.put _ (some 99) _ = _
                simp only [Act.put, List.setIfInBounds_toArray, List.set_cons_zero, List.set_cons_succ, i64_w, i32_w]
                rfl
               refine pure_ (i := 5) (N := some 94) (v := ?_) (a' := ?_) #[true, true, true, true, true, true, false, false, true, false, false] rfl rfl (any_of HT_.out (by kernel_rfl)) (fun _ _ _ h => h) (Or.inl ⟨by rfl, ?_⟩) ?_ ?_
               rotate_left
               ·
                intro w'
                go_simp
                with_reducible rfl
               rotate_left
               ·
                simp only [Act.put, List.setIfInBounds_toArray, List.set_cons_zero, List.set_cons_succ, i64_w, i32_w]
                rfl
               refine pure_ (i := 6) (N := some 100) (v := ?_) (a' := ?_) #[true, true, true, true, true, true, true, false, true, false, false] rfl rfl (any_of HT_.out (by kernel_rfl)) (fun _ _ _ h => h) (Or.inl ⟨by rfl, ?_⟩) ?_ ?_
               rotate_left
               ·
                intro w'
                go_simp
                with_reducible rfl
               rotate_left
               ·
                simp only [Act.put, List.setIfInBounds_toArray, List.set_cons_zero, List.set_cons_succ, i64_w, i32_w]
                rfl
               refine pure_ (i := 7) (N := some 101) (v := ?_) (a' := ?_) #[true, true, true, true, true, true, true, true, true, false, false] rfl rfl (any_of HT_.out (by kernel_rfl)) (fun _ _ _ h => h) (Or.inl ⟨by rfl, ?_⟩) ?_ ?_
               rotate_left
               ·
                intro w'
                go_simp
                with_reducible rfl
               rotate_left
               ·
                simp only [Act.put, List.setIfInBounds_toArray, List.set_cons_zero, List.set_cons_succ, i64_w, i32_w]
                rfl
               exact norm_ (by simp only [putAll, Act.put, List.setIfInBounds_toArray, List.set_cons_zero, List.set_cons_succ]) (hCont (.slice Ao163 t344.length co163, .slice Ao164 t347.length co164, .slice Ao165 t350.length co165, .slice Ao166 t353.length co166, v357, v360, gb363) _ ⟨hHeld, (by (with_reducible repeat (first | apply Kd.R_alloc | apply Kd.R_drewN | apply Kd.R_drew)); exact Kd.R_mono HO346.out (fun _ hk => ⟨hk.1.1.1.1.1.1.1.1.1.1.1.1, ⟨hk.1.1.1.2, ⟨hk.1.1.2, ⟨hk.1.2, ⟨hk.2, ⟨hk.1.1.1.1.1.1.1.1.1.1.1.2, ⟨hk.1.1.1.1.1.1.1.1.1.1.2, ⟨hk.1.1.1.1.1.1.1.1.1.2, ⟨hk.1.1.1.1.1.1.1.1.2, ⟨hk.1.1.1.1.1.1.1.2, ⟨hk.1.1.1.1.1.1.2, ⟨hk.1.1.1.1.1.2, hk.1.1.1.1.2⟩⟩⟩⟩⟩⟩⟩⟩⟩⟩⟩⟩)), (by (with_reducible repeat (first | apply Kd.R_alloc | apply Kd.R_drewN | apply Kd.R_drew)); exact Kd.R_mono HO349.out (fun _ hk => ⟨hk.1.1.1.1.1.1.1.1.1.1.1.1, ⟨hk.1.1.1.2, ⟨hk.1.1.2, ⟨hk.1.2, ⟨hk.2, ⟨hk.1.1.1.1.1.1.1.1.1.1.1.2, ⟨hk.1.1.1.1.1.1.1.1.1.1.2, ⟨hk.1.1.1.1.1.1.1.1.1.2, ⟨hk.1.1.1.1.1.1.1.1.2, ⟨hk.1.1.1.1.1.1.1.2, ⟨hk.1.1.1.1.1.1.2, ⟨hk.1.1.1.1.1.2, hk.1.1.1.1.2⟩⟩⟩⟩⟩⟩⟩⟩⟩⟩⟩⟩)), (by (with_reducible repeat (first | apply Kd.R_alloc | apply Kd.R_drewN | apply Kd.R_drew)); exact Kd.R_mono HO352.out (fun _ hk => ⟨hk.1.1.1.2, ⟨hk.1.1.2, ⟨hk.1.1.1.1.1.1.1.1.1.1.1.1, ⟨hk.1.2, ⟨hk.2, ⟨hk.1.1.1.1.1.1.1.1.1.1.1.2, ⟨hk.1.1.1.1.1.1.1.1.1.1.2, ⟨hk.1.1.1.1.1.1.1.1.1.2, ⟨hk.1.1.1.1.1.1.1.1.2, ⟨hk.1.1.1.1.1.1.1.2, ⟨hk.1.1.1.1.1.1.2, ⟨hk.1.1.1.1.1.2, hk.1.1.1.1.2⟩⟩⟩⟩⟩⟩⟩⟩⟩⟩⟩⟩)), (by (with_reducible repeat (first | apply Kd.R_alloc | apply Kd.R_drewN | apply Kd.R_drew)); exact Kd.R_mono HO355.out (fun _ hk => ⟨hk.1.1.1.2, ⟨hk.1.1.2, ⟨hk.1.1.1.1.1.1.1.1.1.1.1.1, ⟨hk.1.2, ⟨hk.2, ⟨hk.1.1.1.1.1.1.1.1.1.1.1.2, ⟨hk.1.1.1.1.1.1.1.1.1.1.2, ⟨hk.1.1.1.1.1.1.1.1.1.2, ⟨hk.1.1.1.1.1.1.1.1.2, ⟨hk.1.1.1.1.1.1.1.2, ⟨hk.1.1.1.1.1.1.2, ⟨hk.1.1.1.1.1.2, hk.1.1.1.1.2⟩⟩⟩⟩⟩⟩⟩⟩⟩⟩⟩⟩)), (by (with_reducible repeat (first | apply Kd.R_alloc | apply Kd.R_drewN | apply Kd.R_drew)); exact Kd.R_mono HO358.out (fun _ hk => ⟨hk.1.1.1.2, ⟨hk.1.1.2, ⟨hk.1.2, ⟨hk.2, ⟨hk.1.1.1.1.1.1.1.1.1.1.1.1, ⟨hk.1.1.1.1.1.1.1.1.1.1.1.2, ⟨hk.1.1.1.1.1.1.1.1.1.1.2, ⟨hk.1.1.1.1.1.1.1.1.1.2, ⟨hk.1.1.1.1.1.1.1.1.2, ⟨hk.1.1.1.1.1.1.1.2, ⟨hk.1.1.1.1.1.1.2, ⟨hk.1.1.1.1.1.2, hk.1.1.1.1.2⟩⟩⟩⟩⟩⟩⟩⟩⟩⟩⟩⟩)), (by (with_reducible repeat (first | apply Kd.R_alloc | apply Kd.R_drewN | apply Kd.R_drew)); exact Kd.R_mono HO361.out (fun _ hk => ⟨hk.1.1.1.2, ⟨hk.1.1.2, ⟨hk.1.2, ⟨hk.2, ⟨hk.1.1.1.1.1.1.1.1.1.1.1.1, ⟨hk.1.1.1.1.1.1.1.1.1.1.1.2, ⟨hk.1.1.1.1.1.1.1.1.1.1.2, ⟨hk.1.1.1.1.1.1.1.1.1.2, ⟨hk.1.1.1.1.1.1.1.1.2, ⟨hk.1.1.1.1.1.1.1.2, ⟨hk.1.1.1.1.1.1.2, ⟨hk.1.1.1.1.1.2, hk.1.1.1.1.2⟩⟩⟩⟩⟩⟩⟩⟩⟩⟩⟩⟩)), (by (with_reducible repeat (first | apply Kd.R_alloc | apply Kd.R_drewN | apply Kd.R_drew)); exact Kd.R_mono HO_296000.out (fun _ hk => ⟨hk.1.1.1.1.1.2, ⟨hk.1.1.1.1.2, ⟨hk.1.1.1.2, ⟨hk.1.1.2, ⟨hk.1.2, ⟨hk.2, ⟨hk.1.1.1.1.1.1.1, ⟨hk.1.1.1.1.1.1.2.1, ⟨hk.1.1.1.1.1.1.2.2.1, ⟨hk.1.1.1.1.1.1.2.2.2.1, ⟨hk.1.1.1.1.1.1.2.2.2.2.1, ⟨hk.1.1.1.1.1.1.2.2.2.2.2.1, hk.1.1.1.1.1.1.2.2.2.2.2.2⟩⟩⟩⟩⟩⟩⟩⟩⟩⟩⟩⟩)), (by (with_reducible repeat (first | apply Kd.R_alloc | apply Kd.R_drewN | apply Kd.R_drew)); exact Kd.R_mono HO_296001.out (fun _ hk => ⟨hk.1.1.1.1.1.2, ⟨hk.1.1.1.1.2, ⟨hk.1.1.1.2, ⟨hk.1.1.2, ⟨hk.1.2, ⟨hk.2, ⟨hk.1.1.1.1.1.1.1, ⟨hk.1.1.1.1.1.1.2.1, ⟨hk.1.1.1.1.1.1.2.2.1, ⟨hk.1.1.1.1.1.1.2.2.2.1, ⟨hk.1.1.1.1.1.1.2.2.2.2.1, ⟨hk.1.1.1.1.1.1.2.2.2.2.2.1, hk.1.1.1.1.1.1.2.2.2.2.2.2⟩⟩⟩⟩⟩⟩⟩⟩⟩⟩⟩⟩)), (by (with_reducible repeat (first | apply Kd.R_alloc | apply Kd.R_drewN | apply Kd.R_drew)); exact Kd.R_mono HO_303000.out (fun _ hk => ⟨hk.1.1.1.1.1.2, ⟨hk.1.1.1.1.2, ⟨hk.1.1.1.2, ⟨hk.1.1.2, ⟨hk.1.2, ⟨hk.2, ⟨hk.1.1.1.1.1.1.1, ⟨hk.1.1.1.1.1.1.2.1, ⟨hk.1.1.1.1.1.1.2.2.1, ⟨hk.1.1.1.1.1.1.2.2.2.1, ⟨hk.1.1.1.1.1.1.2.2.2.2.1, ⟨hk.1.1.1.1.1.1.2.2.2.2.2.1, hk.1.1.1.1.1.1.2.2.2.2.2.2⟩⟩⟩⟩⟩⟩⟩⟩⟩⟩⟩⟩)), (by (with_reducible repeat (first | apply Kd.R_alloc | apply Kd.R_drewN | apply Kd.R_drew)); exact Kd.R_mono HO_303001.out (fun _ hk => ⟨hk.1.1.1.1.1.2, ⟨hk.1.1.1.1.2, ⟨hk.1.1.1.2, ⟨hk.1.1.2, ⟨hk.1.2, ⟨hk.2, ⟨hk.1.1.1.1.1.1.1, ⟨hk.1.1.1.1.1.1.2.1, ⟨hk.1.1.1.1.1.1.2.2.1, ⟨hk.1.1.1.1.1.1.2.2.2.1, ⟨hk.1.1.1.1.1.1.2.2.2.2.1, ⟨hk.1.1.1.1.1.1.2.2.2.2.2.1, hk.1.1.1.1.1.1.2.2.2.2.2.2⟩⟩⟩⟩⟩⟩⟩⟩⟩⟩⟩⟩)), (by (with_reducible repeat (first | apply Kd.R_alloc | apply Kd.R_drewN | apply Kd.R_drew)); exact Kd.R_mono HO_310000.out (fun _ hk => ⟨hk.1.1.1.1.1.2, ⟨hk.1.1.1.1.2, ⟨hk.1.1.1.2, ⟨hk.1.1.2, ⟨hk.1.2, ⟨hk.2, ⟨hk.1.1.1.1.1.1.1, ⟨hk.1.1.1.1.1.1.2.1, ⟨hk.1.1.1.1.1.1.2.2.1, ⟨hk.1.1.1.1.1.1.2.2.2.1, ⟨hk.1.1.1.1.1.1.2.2.2.2.1, ⟨hk.1.1.1.1.1.1.2.2.2.2.2.1, hk.1.1.1.1.1.1.2.2.2.2.2.2⟩⟩⟩⟩⟩⟩⟩⟩⟩⟩⟩⟩)), (by (with_reducible repeat (first | apply Kd.R_alloc | apply Kd.R_drewN | apply Kd.R_drew)); exact Kd.R_mono HO_310001.out (fun _ hk => ⟨hk.1.1.1.1.1.2, ⟨hk.1.1.1.1.2, ⟨hk.1.1.1.2, ⟨hk.1.1.2, ⟨hk.1.2, ⟨hk.2, ⟨hk.1.1.1.1.1.1.1, ⟨hk.1.1.1.1.1.1.2.1, ⟨hk.1.1.1.1.1.1.2.2.1, ⟨hk.1.1.1.1.1.1.2.2.2.1, ⟨hk.1.1.1.1.1.1.2.2.2.2.1, ⟨hk.1.1.1.1.1.1.2.2.2.2.2.1, hk.1.1.1.1.1.1.2.2.2.2.2.2⟩⟩⟩⟩⟩⟩⟩⟩⟩⟩⟩⟩)), (by (with_reducible repeat (first | apply Kd.R_alloc | apply Kd.R_drewN | apply Kd.R_drew)); exact Kd.R_mono HO_318000.out (fun _ hk => ⟨hk.1.1.1.1.1.2, ⟨hk.1.1.1.1.2, ⟨hk.1.1.1.2, ⟨hk.1.1.2, ⟨hk.1.2, ⟨hk.2, ⟨hk.1.1.1.1.1.1.1, ⟨hk.1.1.1.1.1.1.2.1, ⟨hk.1.1.1.1.1.1.2.2.1, ⟨hk.1.1.1.1.1.1.2.2.2.1, ⟨hk.1.1.1.1.1.1.2.2.2.2.1, ⟨hk.1.1.1.1.1.1.2.2.2.2.2.1, hk.1.1.1.1.1.1.2.2.2.2.2.2⟩⟩⟩⟩⟩⟩⟩⟩⟩⟩⟩⟩)), (by (with_reducible repeat (first | apply Kd.R_alloc | apply Kd.R_drewN | apply Kd.R_drew)); exact Kd.R_mono HO_318001.out (fun _ hk => ⟨hk.1.1.1.1.1.2, ⟨hk.1.1.1.1.2, ⟨hk.1.1.1.2, ⟨hk.1.1.2, ⟨hk.1.2, ⟨hk.2, ⟨hk.1.1.1.1.1.1.1, ⟨hk.1.1.1.1.1.1.2.1, ⟨hk.1.1.1.1.1.1.2.2.1, ⟨hk.1.1.1.1.1.1.2.2.2.1, ⟨hk.1.1.1.1.1.1.2.2.2.2.1, ⟨hk.1.1.1.1.1.1.2.2.2.2.2.1, hk.1.1.1.1.1.1.2.2.2.2.2.2⟩⟩⟩⟩⟩⟩⟩⟩⟩⟩⟩⟩)), (kU BK272.out), (kU BK273.out), (kU BK295.out), (kU BK302.out), (kU BK309.out), (kU BK317.out), (kU BK363.out), GW363.out, GE363.out, NB272_363.out, NB363_272.out, NB273_363.out, NB363_273.out, NB295_363.out, NB363_295.out, NB302_363.out, NB363_302.out, NB309_363.out, NB363_309.out, NB317_363.out, NB363_317.out, (bS7 HB.out GE272.out GE273.out GE295.out GE302.out GE309.out GE317.out GE363.out)⟩)
             rintro ⟨v345, v348, v351, v354, v357, v360, gb363⟩ w168 ⟨hS_, h0_, h1_, h2_, h3_, h4_, h5_, h6_, h7_, h8_, h9_, h10_, h11_, h12_, h13_, h14_, h15_, h16_, h17_, h18_, h19_, h20_, h21_, h22_, h23_, h24_, h25_, h26_, h27_, h28_, h29_, h30_, h31_, h32_, h33_, h34_, h35_⟩
             have n0_ : Aside0 (Kd.R (Kd.int .i64) 3 w168 w.heap.size (fun k_ => some k_ ≠ (v348 : Value).ownBlock ∧ some k_ ≠ (v351 : Value).ownBlock ∧ some k_ ≠ (v354 : Value).ownBlock ∧ some k_ ≠ (v357 : Value).ownBlock ∧ some k_ ≠ (v360 : Value).ownBlock ∧ some k_ ≠ (.slice Ao43 t288.length co43 : Value).ownBlock ∧ some k_ ≠ (.slice Ao45 t291.length co45 : Value).ownBlock ∧ some k_ ≠ (.slice Ao51 t334.length co51 : Value).ownBlock ∧ some k_ ≠ (.slice Ao56 t335.length co56 : Value).ownBlock ∧ some k_ ≠ (.slice Ao61 t337.length co61 : Value).ownBlock ∧ some k_ ≠ (.slice Ao67 t338.length co67 : Value).ownBlock ∧ some k_ ≠ (.slice Ao71 t310.length co71 : Value).ownBlock ∧ some k_ ≠ (.slice Ao78 t313.length co78 : Value).ownBlock) v345 t344) := ⟨h0_⟩
             have n1_ : Aside0 (Kd.R (Kd.int .i64) 3 w168 w.heap.size (fun k_ => some k_ ≠ (v345 : Value).ownBlock ∧ some k_ ≠ (v351 : Value).ownBlock ∧ some k_ ≠ (v354 : Value).ownBlock ∧ some k_ ≠ (v357 : Value).ownBlock ∧ some k_ ≠ (v360 : Value).ownBlock ∧ some k_ ≠ (.slice Ao43 t288.length co43 : Value).ownBlock ∧ some k_ ≠ (.slice Ao45 t291.length co45 : Value).ownBlock ∧ some k_ ≠ (.slice Ao51 t334.length co51 : Value).ownBlock ∧ some k_ ≠ (.slice Ao56 t335.length co56 : Value).ownBlock ∧ some k_ ≠ (.slice Ao61 t337.length co61 : Value).ownBlock ∧ some k_ ≠ (.slice Ao67 t338.length co67 : Value).ownBlock ∧ some k_ ≠ (.slice Ao71 t310.length co71 : Value).ownBlock ∧ some k_ ≠ (.slice Ao78 t313.length co78 : Value).ownBlock) v348 t347) := ⟨h1_⟩
             have n2_ : Aside0 (Kd.R (Kd.int .i64) 3 w168 w.heap.size (fun k_ => some k_ ≠ (v345 : Value).ownBlock ∧ some k_ ≠ (v348 : Value).ownBlock ∧ some k_ ≠ (v354 : Value).ownBlock ∧ some k_ ≠ (v357 : Value).ownBlock ∧ some k_ ≠ (v360 : Value).ownBlock ∧ some k_ ≠ (.slice Ao43 t288.length co43 : Value).ownBlock ∧ some k_ ≠ (.slice Ao45 t291.length co45 : Value).ownBlock ∧ some k_ ≠ (.slice Ao51 t334.length co51 : Value).ownBlock ∧ some k_ ≠ (.slice Ao56 t335.length co56 : Value).ownBlock ∧ some k_ ≠ (.slice Ao61 t337.length co61 : Value).ownBlock ∧ some k_ ≠ (.slice Ao67 t338.length co67 : Value).ownBlock ∧ some k_ ≠ (.slice Ao71 t310.length co71 : Value).ownBlock ∧ some k_ ≠ (.slice Ao78 t313.length co78 : Value).ownBlock) v351 t350) := ⟨h2_⟩
             have n3_ : Aside0 (Kd.R (Kd.int .i64) 3 w168 w.heap.size (fun k_ => some k_ ≠ (v345 : Value).ownBlock ∧ some k_ ≠ (v348 : Value).ownBlock ∧ some k_ ≠ (v351 : Value).ownBlock ∧ some k_ ≠ (v357 : Value).ownBlock ∧ some k_ ≠ (v360 : Value).ownBlock ∧ some k_ ≠ (.slice Ao43 t288.length co43 : Value).ownBlock ∧ some k_ ≠ (.slice Ao45 t291.length co45 : Value).ownBlock ∧ some k_ ≠ (.slice Ao51 t334.length co51 : Value).ownBlock ∧ some k_ ≠ (.slice Ao56 t335.length co56 : Value).ownBlock ∧ some k_ ≠ (.slice Ao61 t337.length co61 : Value).ownBlock ∧ some k_ ≠ (.slice Ao67 t338.length co67 : Value).ownBlock ∧ some k_ ≠ (.slice Ao71 t310.length co71 : Value).ownBlock ∧ some k_ ≠ (.slice Ao78 t313.length co78 : Value).ownBlock) v354 t353) := ⟨h3_⟩
             have n4_ : Aside0 (Kd.R (Kd.int .i64) 3 w168 w.heap.size (fun k_ => some k_ ≠ (v345 : Value).ownBlock ∧ some k_ ≠ (v348 : Value).ownBlock ∧ some k_ ≠ (v351 : Value).ownBlock ∧ some k_ ≠ (v354 : Value).ownBlock ∧ some k_ ≠ (v360 : Value).ownBlock ∧ some k_ ≠ (.slice Ao43 t288.length co43 : Value).ownBlock ∧ some k_ ≠ (.slice Ao45 t291.length co45 : Value).ownBlock ∧ some k_ ≠ (.slice Ao51 t334.length co51 : Value).ownBlock ∧ some k_ ≠ (.slice Ao56 t335.length co56 : Value).ownBlock ∧ some k_ ≠ (.slice Ao61 t337.length co61 : Value).ownBlock ∧ some k_ ≠ (.slice Ao67 t338.length co67 : Value).ownBlock ∧ some k_ ≠ (.slice Ao71 t310.length co71 : Value).ownBlock ∧ some k_ ≠ (.slice Ao78 t313.length co78 : Value).ownBlock) v357 t356) := ⟨h4_⟩
             have n5_ : Aside0 (Kd.R (Kd.int .i64) 3 w168 w.heap.size (fun k_ => some k_ ≠ (v345 : Value).ownBlock ∧ some k_ ≠ (v348 : Value).ownBlock ∧ some k_ ≠ (v351 : Value).ownBlock ∧ some k_ ≠ (v354 : Value).ownBlock ∧ some k_ ≠ (v357 : Value).ownBlock ∧ some k_ ≠ (.slice Ao43 t288.length co43 : Value).ownBlock ∧ some k_ ≠ (.slice Ao45 t291.length co45 : Value).ownBlock ∧ some k_ ≠ (.slice Ao51 t334.length co51 : Value).ownBlock ∧ some k_ ≠ (.slice Ao56 t335.length co56 : Value).ownBlock ∧ some k_ ≠ (.slice Ao61 t337.length co61 : Value).ownBlock ∧ some k_ ≠ (.slice Ao67 t338.length co67 : Value).ownBlock ∧ some k_ ≠ (.slice Ao71 t310.length co71 : Value).ownBlock ∧ some k_ ≠ (.slice Ao78 t313.length co78 : Value).ownBlock) v360 t359) := ⟨h5_⟩
             have n6_ : Aside0 (Kd.R (Kd.int .i64) 3 w168 w.heap.size (fun k_ => some k_ ≠ (v345 : Value).ownBlock ∧ some k_ ≠ (v348 : Value).ownBlock ∧ some k_ ≠ (v351 : Value).ownBlock ∧ some k_ ≠ (v354 : Value).ownBlock ∧ some k_ ≠ (v357 : Value).ownBlock ∧ some k_ ≠ (v360 : Value).ownBlock ∧ some k_ ≠ (.slice Ao45 t291.length co45 : Value).ownBlock ∧ some k_ ≠ (.slice Ao51 t334.length co51 : Value).ownBlock ∧ some k_ ≠ (.slice Ao56 t335.length co56 : Value).ownBlock ∧ some k_ ≠ (.slice Ao61 t337.length co61 : Value).ownBlock ∧ some k_ ≠ (.slice Ao67 t338.length co67 : Value).ownBlock ∧ some k_ ≠ (.slice Ao71 t310.length co71 : Value).ownBlock ∧ some k_ ≠ (.slice Ao78 t313.length co78 : Value).ownBlock) (.slice Ao43 t288.length co43) t288) := ⟨h6_⟩
             have n7_ : Aside0 (Kd.R (Kd.int .i64) 3 w168 w.heap.size (fun k_ => some k_ ≠ (v345 : Value).ownBlock ∧ some k_ ≠ (v348 : Value).ownBlock ∧ some k_ ≠ (v351 : Value).ownBlock ∧ some k_ ≠ (v354 : Value).ownBlock ∧ some k_ ≠ (v357 : Value).ownBlock ∧ some k_ ≠ (v360 : Value).ownBlock ∧ some k_ ≠ (.slice Ao43 t288.length co43 : Value).ownBlock ∧ some k_ ≠ (.slice Ao51 t334.length co51 : Value).ownBlock ∧ some k_ ≠ (.slice Ao56 t335.length co56 : Value).ownBlock ∧ some k_ ≠ (.slice Ao61 t337.length co61 : Value).ownBlock ∧ some k_ ≠ (.slice Ao67 t338.length co67 : Value).ownBlock ∧ some k_ ≠ (.slice Ao71 t310.length co71 : Value).ownBlock ∧ some k_ ≠ (.slice Ao78 t313.length co78 : Value).ownBlock) (.slice Ao45 t291.length co45) t291) := ⟨h7_⟩
             have n8_ : Aside0 (Kd.R (Kd.int .i64) 3 w168 w.heap.size (fun k_ => some k_ ≠ (v345 : Value).ownBlock ∧ some k_ ≠ (v348 : Value).ownBlock ∧ some k_ ≠ (v351 : Value).ownBlock ∧ some k_ ≠ (v354 : Value).ownBlock ∧ some k_ ≠ (v357 : Value).ownBlock ∧ some k_ ≠ (v360 : Value).ownBlock ∧ some k_ ≠ (.slice Ao43 t288.length co43 : Value).ownBlock ∧ some k_ ≠ (.slice Ao45 t291.length co45 : Value).ownBlock ∧ some k_ ≠ (.slice Ao56 t335.length co56 : Value).ownBlock ∧ some k_ ≠ (.slice Ao61 t337.length co61 : Value).ownBlock ∧ some k_ ≠ (.slice Ao67 t338.length co67 : Value).ownBlock ∧ some k_ ≠ (.slice Ao71 t310.length co71 : Value).ownBlock ∧ some k_ ≠ (.slice Ao78 t313.length co78 : Value).ownBlock) (.slice Ao51 t334.length co51) t334) := ⟨h8_⟩
             have n9_ : Aside0 (Kd.R (Kd.int .i64) 3 w168 w.heap.size (fun k_ => some k_ ≠ (v345 : Value).ownBlock ∧ some k_ ≠ (v348 : Value).ownBlock ∧ some k_ ≠ (v351 : Value).ownBlock ∧ some k_ ≠ (v354 : Value).ownBlock ∧ some k_ ≠ (v357 : Value).ownBlock ∧ some k_ ≠ (v360 : Value).ownBlock ∧ some k_ ≠ (.slice Ao43 t288.length co43 : Value).ownBlock ∧ some k_ ≠ (.slice Ao45 t291.length co45 : Value).ownBlock ∧ some k_ ≠ (.slice Ao51 t334.length co51 : Value).ownBlock ∧ some k_ ≠ (.slice Ao61 t337.length co61 : Value).ownBlock ∧ some k_ ≠ (.slice Ao67 t338.length co67 : Value).ownBlock ∧ some k_ ≠ (.slice Ao71 t310.length co71 : Value).ownBlock ∧ some k_ ≠ (.slice Ao78 t313.length co78 : Value).ownBlock) (.slice Ao56 t335.length co56) t335) := ⟨h9_⟩
             have n10_ : Aside0 (Kd.R (Kd.int .i64) 3 w168 w.heap.size (fun k_ => some k_ ≠ (v345 : Value).ownBlock ∧ some k_ ≠ (v348 : Value).ownBlock ∧ some k_ ≠ (v351 : Value).ownBlock ∧ some k_ ≠ (v354 : Value).ownBlock ∧ some k_ ≠ (v357 : Value).ownBlock ∧ some k_ ≠ (v360 : Value).ownBlock ∧ some k_ ≠ (.slice Ao43 t288.length co43 : Value).ownBlock ∧ some k_ ≠ (.slice Ao45 t291.length co45 : Value).ownBlock ∧ some k_ ≠ (.slice Ao51 t334.length co51 : Value).ownBlock ∧ some k_ ≠ (.slice Ao56 t335.length co56 : Value).ownBlock ∧ some k_ ≠ (.slice Ao67 t338.length co67 : Value).ownBlock ∧ some k_ ≠ (.slice Ao71 t310.length co71 : Value).ownBlock ∧ some k_ ≠ (.slice Ao78 t313.length co78 : Value).ownBlock) (.slice Ao61 t337.length co61) t337) := ⟨h10_⟩
             have n11_ : Aside0 (Kd.R (Kd.int .i64) 3 w168 w.heap.size (fun k_ => some k_ ≠ (v345 : Value).ownBlock ∧ some k_ ≠ (v348 : Value).ownBlock ∧ some k_ ≠ (v351 : Value).ownBlock ∧ some k_ ≠ (v354 : Value).ownBlock ∧ some k_ ≠ (v357 : Value).ownBlock ∧ some k_ ≠ (v360 : Value).ownBlock ∧ some k_ ≠ (.slice Ao43 t288.length co43 : Value).ownBlock ∧ some k_ ≠ (.slice Ao45 t291.length co45 : Value).ownBlock ∧ some k_ ≠ (.slice Ao51 t334.length co51 : Value).ownBlock ∧ some k_ ≠ (.slice Ao56 t335.length co56 : Value).ownBlock ∧ some k_ ≠ (.slice Ao61 t337.length co61 : Value).ownBlock ∧ some k_ ≠ (.slice Ao71 t310.length co71 : Value).ownBlock ∧ some k_ ≠ (.slice Ao78 t313.length co78 : Value).ownBlock) (.slice Ao67 t338.length co67) t338) := ⟨h11_⟩
             have n12_ : Aside0 (Kd.R (Kd.int .i64) 3 w168 w.heap.size (fun k_ => some k_ ≠ (v345 : Value).ownBlock ∧ some k_ ≠ (v348 : Value).ownBlock ∧ some k_ ≠ (v351 : Value).ownBlock ∧ some k_ ≠ (v354 : Value).ownBlock ∧ some k_ ≠ (v357 : Value).ownBlock ∧ some k_ ≠ (v360 : Value).ownBlock ∧ some k_ ≠ (.slice Ao43 t288.length co43 : Value).ownBlock ∧ some k_ ≠ (.slice Ao45 t291.length co45 : Value).ownBlock ∧ some k_ ≠ (.slice Ao51 t334.length co51 : Value).ownBlock ∧ some k_ ≠ (.slice Ao56 t335.length co56 : Value).ownBlock ∧ some k_ ≠ (.slice Ao61 t337.length co61 : Value).ownBlock ∧ some k_ ≠ (.slice Ao67 t338.length co67 : Value).ownBlock ∧ some k_ ≠ (.slice Ao78 t313.length co78 : Value).ownBlock) (.slice Ao71 t310.length co71) t341) := ⟨h12_⟩
             have n13_ : Aside0 (Kd.R (Kd.int .i64) 3 w168 w.heap.size (fun k_ => some k_ ≠ (v345 : Value).ownBlock ∧ some k_ ≠ (v348 : Value).ownBlock ∧ some k_ ≠ (v351 : Value).ownBlock ∧ some k_ ≠ (v354 : Value).ownBlock ∧ some k_ ≠ (v357 : Value).ownBlock ∧ some k_ ≠ (v360 : Value).ownBlock ∧ some k_ ≠ (.slice Ao43 t288.length co43 : Value).ownBlock ∧ some k_ ≠ (.slice Ao45 t291.length co45 : Value).ownBlock ∧ some k_ ≠ (.slice Ao51 t334.length co51 : Value).ownBlock ∧ some k_ ≠ (.slice Ao56 t335.length co56 : Value).ownBlock ∧ some k_ ≠ (.slice Ao61 t337.length co61 : Value).ownBlock ∧ some k_ ≠ (.slice Ao67 t338.length co67 : Value).ownBlock ∧ some k_ ≠ (.slice Ao71 t310.length co71 : Value).ownBlock) (.slice Ao78 t313.length co78) t342) := ⟨h13_⟩
             have n14_ : Aside0 (w168.heap[gb272]? = some (.cells #[.slice A0_0 l0_0.length c0_0, .slice A0_1 l0_1.length c0_1] 24 (0, 0))) := ⟨h14_⟩
             have n15_ : Aside0 (w168.heap[gb273]? = some (.cells #[.slice A1_0 l1_0.length c1_0, .slice A1_1 l1_1.length c1_1] 24 (0, 0))) := ⟨h15_⟩
             have n16_ : Aside0 (w168.heap[gb295]? = some (.cells #[.slice Ao43 t288.length co43, .slice Ao45 t291.length co45] 26 (0, 0))) := ⟨h16_⟩
             have n17_ : Aside0 (w168.heap[gb302]? = some (.cells #[.slice Ao51 t334.length co51, .slice Ao56 t335.length co56] 26 (0, 0))) := ⟨h17_⟩
             have n18_ : Aside0 (w168.heap[gb309]? = some (.cells #[.slice Ao61 t337.length co61, .slice Ao67 t338.length co67] 26 (0, 0))) := ⟨h18_⟩
             have n19_ : Aside0 (w168.heap[gb317]? = some (.cells #[.slice Ao71 t310.length co71, .slice Ao78 t313.length co78] 26 (0, 0))) := ⟨h19_⟩
             have n20_ : Aside0 (w168.heap[gb363]? = some (.cells #[.slice none 0 0, .slice none 0 0] 26 (0, 0))) := ⟨h20_⟩
             have n21_ : Aside0 (w.heap.size ≤ gb363) := ⟨h21_⟩
             have n22_ : Aside0 (w.heap.size ≤ gb363) := ⟨h22_⟩
             have n23_ : Aside0 (gb272 ≠ gb363) := ⟨h23_⟩
             have n24_ : Aside0 (gb363 ≠ gb272) := ⟨h24_⟩
             have n25_ : Aside0 (gb273 ≠ gb363) := ⟨h25_⟩
             have n26_ : Aside0 (gb363 ≠ gb273) := ⟨h26_⟩
             have n27_ : Aside0 (gb295 ≠ gb363) := ⟨h27_⟩
             have n28_ : Aside0 (gb363 ≠ gb295) := ⟨h28_⟩
             have n29_ : Aside0 (gb302 ≠ gb363) := ⟨h29_⟩
             have n30_ : Aside0 (gb363 ≠ gb302) := ⟨h30_⟩
             have n31_ : Aside0 (gb309 ≠ gb363) := ⟨h31_⟩
             have n32_ : Aside0 (gb363 ≠ gb309) := ⟨h32_⟩
             have n33_ : Aside0 (gb317 ≠ gb363) := ⟨h33_⟩
             have n34_ : Aside0 (gb363 ≠ gb317) := ⟨h34_⟩
             have n35_ : Aside0 (Below w.heap.size w w168) := ⟨h35_⟩
             clear HO_296000 HO_296001 HO_303000 HO_303001 HO_310000 HO_310001 HO_318000 HO_318001 BK272 BK273 BK295 BK302 BK309 BK317 HB
             clear h0_ h1_ h2_ h3_ h4_ h5_ h6_ h7_ h8_ h9_ h10_ h11_ h12_ h13_ h14_ h15_ h16_ h17_ h18_ h19_ h20_ h21_ h22_ h23_ h24_ h25_ h26_ h27_ h28_ h29_ h30_ h31_ h32_ h33_ h34_ h35_
             have HO346 := n0_
             have HO349 := n1_
             have HO352 := n2_
             have HO355 := n3_
             have HO358 := n4_
             have HO361 := n5_
             have HO_296000 := n6_
             have HO_296001 := n7_
             have HO_303000 := n8_
             have HO_303001 := n9_
             have HO_310000 := n10_
             have HO_310001 := n11_
             have HO_318000 := n12_
             have HO_318001 := n13_
             have BK272 := n14_
             have BK273 := n15_
             have BK295 := n16_
             have BK302 := n17_
             have BK309 := n18_
             have BK317 := n19_
             have BK363 := n20_
             have GW363 := n21_
             have GE363 := n22_
             have NB272_363 := n23_
             have NB363_272 := n24_
             have NB273_363 := n25_
             have NB363_273 := n26_
             have NB295_363 := n27_
             have NB363_295 := n28_
             have NB302_363 := n29_
             have NB363_302 := n30_
             have NB309_363 := n31_
             have NB363_309 := n32_
             have NB317_363 := n33_
             have NB363_317 := n34_
             have HB := n35_
             clear n0_ n1_ n2_ n3_ n4_ n5_ n6_ n7_ n8_ n9_ n10_ n11_ n12_ n13_ n14_ n15_ n16_ n17_ n18_ n19_ n20_ n21_ n22_ n23_ n24_ n25_ n26_ n27_ n28_ n29_ n30_ n31_ n32_ n33_ n34_ n35_
             have hHeld : w168.cell? ⟨gb272, 0, none⟩ = some (.slice A0_0 l0_0.length c0_0) ∧ w168.cell? ⟨gb272, 1, none⟩ = some (.slice A0_1 l0_1.length c0_1) ∧ w168.cell? ⟨gb273, 0, none⟩ = some (.slice A1_0 l1_0.length c1_0) ∧ w168.cell? ⟨gb273, 1, none⟩ = some (.slice A1_1 l1_1.length c1_1) := hS_
             obtain ⟨Ao169, co169, eo169⟩ := Kd.R_slice HO358.out
             (first | subst eo169 | (injection eo169 with f1_ f2_ f3_; have f4_ := f1_.symm; have f5_ := f3_.symm; clear f1_ f2_ f3_; subst f4_; subst f5_))
             obtain ⟨Ao171, co171, eo171⟩ := Kd.R_slice HO361.out
             (first | subst eo171 | (injection eo171 with f1_ f2_ f3_; have f4_ := f1_.symm; have f5_ := f3_.symm; clear f1_ f2_ f3_; subst f4_; subst f5_))
             refine norm_ (a' := ?_) ?_ ?_
             rotate_left
             ·
              simp only [putAll, Act.put, List.setIfInBounds_toArray, List.set_cons_zero, List.set_cons_succ]
              rfl
             refine one_ (i := 9) (N := none) #[true, true, true, true, true, true, true, true, true, true, false] rfl rfl (one_of HT_.out (by kernel_rfl)) (by decide) (fun K hK => ?_)
             have hs170 : w168.cell? ⟨gb363, 0, none⟩ = some (.slice none 0 0) := (blk_cell BK363.out 0).trans rfl
             have hfs170 := blk_frozen BK363.out 0
             have hns170_0 := NB272_363.out
             have hns170_1 := NB273_363.out
             have hns170_2 := NB295_363.out
             have hns170_3 := NB302_363.out
             have hns170_4 := NB309_363.out
             have hns170_5 := NB317_363.out
             have hms170_0 := NB363_272.out
             have hms170_1 := NB363_273.out
             have hms170_2 := NB363_295.out
             have hms170_3 := NB363_302.out
             have hms170_4 := NB363_309.out
             have hms170_5 := NB363_317.out
             have hs172 : w168.cell? ⟨gb363, 1, none⟩ = some (.slice none 0 0) := (blk_cell BK363.out 1).trans rfl
             have hfs172 := blk_frozen BK363.out 1
             have hns172_0 := NB272_363.out
             have hns172_1 := NB273_363.out
             have hns172_2 := NB295_363.out
             have hns172_3 := NB302_363.out
             have hns172_4 := NB309_363.out
             have hns172_5 := NB317_363.out
             have hms172_0 := NB363_272.out
             have hms172_1 := NB363_273.out
             have hms172_2 := NB363_295.out
             have hms172_3 := NB363_302.out
             have hms172_4 := NB363_309.out
             have hms172_5 := NB363_317.out
             refine skip_ (w1 := ?_) (by rfl) rfl ?_ ?_
             rotate_left
             ·
              go_simp
              rfl
             refine hK.out _ _ ⟨((cell_far (p := ⟨gb363, _, none⟩) NB272_363.out _).trans (((cell_far (p := ⟨gb363, _, none⟩) NB272_363.out _).trans (hHeld.1)))), ((cell_far (p := ⟨gb363, _, none⟩) NB272_363.out _).trans (((cell_far (p := ⟨gb363, _, none⟩) NB272_363.out _).trans (hHeld.2.1)))), ((cell_far (p := ⟨gb363, _, none⟩) NB273_363.out _).trans (((cell_far (p := ⟨gb363, _, none⟩) NB273_363.out _).trans (hHeld.2.2.1)))), ((cell_far (p := ⟨gb363, _, none⟩) NB273_363.out _).trans (((cell_far (p := ⟨gb363, _, none⟩) NB273_363.out _).trans (hHeld.2.2.2))))⟩ (fun hHeld => ?_)
             clear hK K
             refine pure_ (i := 10) (N := some 16) (v := ?_) (a' := ?_) #[true, true, true, true, true, true, true, true, true, true, true] rfl rfl (any_of HT_.out (by kernel_rfl)) (fun _ _ _ h => h) (Or.inl ⟨by rfl, ?_⟩) ?_ ?_
             rotate_left
             ·
              intro w'
              go_simp
              with_reducible rfl
             rotate_left
             ·
              simp only [Act.put, List.setIfInBounds_toArray, List.set_cons_zero, List.set_cons_succ, i64_w, i32_w]
              rfl
             refine done_ (done_of HT_.out (by kernel_rfl)) ?_
             go_upto_region 32 with (fail)
             go_cut [110] (fun v110 wc => ∃ (kq : Nat) (x110_148 : Bool), v110 = .bool x110_148 ∧ Aside0 (laws_FnExactCopy.j2 kq t340 x110_148 t341 t342 = some r) ∧ Aside0 (kq ≤ kj101) ∧ Aside0 (Kd.R (Kd.int .i64) 3 wc w.heap.size (fun k_ => some k_ ≠ ((.slice Ao45 t291.length co45) : Value).ownBlock ∧ some k_ ≠ ((.slice Ao51 t334.length co51) : Value).ownBlock ∧ some k_ ≠ ((.slice Ao56 t335.length co56) : Value).ownBlock ∧ some k_ ≠ ((.slice Ao61 t337.length co61) : Value).ownBlock ∧ some k_ ≠ ((.slice Ao67 t338.length co67) : Value).ownBlock ∧ some k_ ≠ ((.slice Ao71 t310.length co71) : Value).ownBlock ∧ some k_ ≠ ((.slice Ao78 t313.length co78) : Value).ownBlock ∧ some k_ ≠ ((.slice Ao169 t356.length co169) : Value).ownBlock ∧ some k_ ≠ ((.slice Ao171 t359.length co171) : Value).ownBlock) (.slice Ao43 t288.length co43) t288) ∧ Aside0 (Kd.R (Kd.int .i64) 3 wc w.heap.size (fun k_ => some k_ ≠ ((.slice Ao43 t288.length co43) : Value).ownBlock ∧ some k_ ≠ ((.slice Ao51 t334.length co51) : Value).ownBlock ∧ some k_ ≠ ((.slice Ao56 t335.length co56) : Value).ownBlock ∧ some k_ ≠ ((.slice Ao61 t337.length co61) : Value).ownBlock ∧ some k_ ≠ ((.slice Ao67 t338.length co67) : Value).ownBlock ∧ some k_ ≠ ((.slice Ao71 t310.length co71) : Value).ownBlock ∧ some k_ ≠ ((.slice Ao78 t313.length co78) : Value).ownBlock ∧ some k_ ≠ ((.slice Ao169 t356.length co169) : Value).ownBlock ∧ some k_ ≠ ((.slice Ao171 t359.length co171) : Value).ownBlock) (.slice Ao45 t291.length co45) t291) ∧ Aside0 (Kd.R (Kd.int .i64) 3 wc w.heap.size (fun k_ => some k_ ≠ ((.slice Ao43 t288.length co43) : Value).ownBlock ∧ some k_ ≠ ((.slice Ao45 t291.length co45) : Value).ownBlock ∧ some k_ ≠ ((.slice Ao56 t335.length co56) : Value).ownBlock ∧ some k_ ≠ ((.slice Ao61 t337.length co61) : Value).ownBlock ∧ some k_ ≠ ((.slice Ao67 t338.length co67) : Value).ownBlock ∧ some k_ ≠ ((.slice Ao71 t310.length co71) : Value).ownBlock ∧ some k_ ≠ ((.slice Ao78 t313.length co78) : Value).ownBlock ∧ some k_ ≠ ((.slice Ao169 t356.length co169) : Value).ownBlock ∧ some k_ ≠ ((.slice Ao171 t359.length co171) : Value).ownBlock) (.slice Ao51 t334.length co51) t334) ∧ Aside0 (Kd.R (Kd.int .i64) 3 wc w.heap.size (fun k_ => some k_ ≠ ((.slice Ao43 t288.length co43) : Value).ownBlock ∧ some k_ ≠ ((.slice Ao45 t291.length co45) : Value).ownBlock ∧ some k_ ≠ ((.slice Ao51 t334.length co51) : Value).ownBlock ∧ some k_ ≠ ((.slice Ao61 t337.length co61) : Value).ownBlock ∧ some k_ ≠ ((.slice Ao67 t338.length co67) : Value).ownBlock ∧ some k_ ≠ ((.slice Ao71 t310.length co71) : Value).ownBlock ∧ some k_ ≠ ((.slice Ao78 t313.length co78) : Value).ownBlock ∧ some k_ ≠ ((.slice Ao169 t356.length co169) : Value).ownBlock ∧ some k_ ≠ ((.slice Ao171 t359.length co171) : Value).ownBlock) (.slice Ao56 t335.length co56) t335) ∧ Aside0 (Kd.R (Kd.int .i64) 3 wc w.heap.size (fun k_ => some k_ ≠ ((.slice Ao43 t288.length co43) : Value).ownBlock ∧ some k_ ≠ ((.slice Ao45 t291.length co45) : Value).ownBlock ∧ some k_ ≠ ((.slice Ao51 t334.length co51) : Value).ownBlock ∧ some k_ ≠ ((.slice Ao56 t335.length co56) : Value).ownBlock ∧ some k_ ≠ ((.slice Ao67 t338.length co67) : Value).ownBlock ∧ some k_ ≠ ((.slice Ao71 t310.length co71) : Value).ownBlock ∧ some k_ ≠ ((.slice Ao78 t313.length co78) : Value).ownBlock ∧ some k_ ≠ ((.slice Ao169 t356.length co169) : Value).ownBlock ∧ some k_ ≠ ((.slice Ao171 t359.length co171) : Value).ownBlock) (.slice Ao61 t337.length co61) t337) ∧ Aside0 (Kd.R (Kd.int .i64) 3 wc w.heap.size (fun k_ => some k_ ≠ ((.slice Ao43 t288.length co43) : Value).ownBlock ∧ some k_ ≠ ((.slice Ao45 t291.length co45) : Value).ownBlock ∧ some k_ ≠ ((.slice Ao51 t334.length co51) : Value).ownBlock ∧ some k_ ≠ ((.slice Ao56 t335.length co56) : Value).ownBlock ∧ some k_ ≠ ((.slice Ao61 t337.length co61) : Value).ownBlock ∧ some k_ ≠ ((.slice Ao71 t310.length co71) : Value).ownBlock ∧ some k_ ≠ ((.slice Ao78 t313.length co78) : Value).ownBlock ∧ some k_ ≠ ((.slice Ao169 t356.length co169) : Value).ownBlock ∧ some k_ ≠ ((.slice Ao171 t359.length co171) : Value).ownBlock) (.slice Ao67 t338.length co67) t338) ∧ Aside0 (Kd.R (Kd.int .i64) 3 wc w.heap.size (fun k_ => some k_ ≠ ((.slice Ao43 t288.length co43) : Value).ownBlock ∧ some k_ ≠ ((.slice Ao45 t291.length co45) : Value).ownBlock ∧ some k_ ≠ ((.slice Ao51 t334.length co51) : Value).ownBlock ∧ some k_ ≠ ((.slice Ao56 t335.length co56) : Value).ownBlock ∧ some k_ ≠ ((.slice Ao61 t337.length co61) : Value).ownBlock ∧ some k_ ≠ ((.slice Ao67 t338.length co67) : Value).ownBlock ∧ some k_ ≠ ((.slice Ao78 t313.length co78) : Value).ownBlock ∧ some k_ ≠ ((.slice Ao169 t356.length co169) : Value).ownBlock ∧ some k_ ≠ ((.slice Ao171 t359.length co171) : Value).ownBlock) (.slice Ao71 t310.length co71) t341) ∧ Aside0 (Kd.R (Kd.int .i64) 3 wc w.heap.size (fun k_ => some k_ ≠ ((.slice Ao43 t288.length co43) : Value).ownBlock ∧ some k_ ≠ ((.slice Ao45 t291.length co45) : Value).ownBlock ∧ some k_ ≠ ((.slice Ao51 t334.length co51) : Value).ownBlock ∧ some k_ ≠ ((.slice Ao56 t335.length co56) : Value).ownBlock ∧ some k_ ≠ ((.slice Ao61 t337.length co61) : Value).ownBlock ∧ some k_ ≠ ((.slice Ao67 t338.length co67) : Value).ownBlock ∧ some k_ ≠ ((.slice Ao71 t310.length co71) : Value).ownBlock ∧ some k_ ≠ ((.slice Ao169 t356.length co169) : Value).ownBlock ∧ some k_ ≠ ((.slice Ao171 t359.length co171) : Value).ownBlock) (.slice Ao78 t313.length co78) t342) ∧ Aside0 (Kd.R (Kd.int .i64) 3 wc w.heap.size (fun k_ => some k_ ≠ ((.slice Ao43 t288.length co43) : Value).ownBlock ∧ some k_ ≠ ((.slice Ao45 t291.length co45) : Value).ownBlock ∧ some k_ ≠ ((.slice Ao51 t334.length co51) : Value).ownBlock ∧ some k_ ≠ ((.slice Ao56 t335.length co56) : Value).ownBlock ∧ some k_ ≠ ((.slice Ao61 t337.length co61) : Value).ownBlock ∧ some k_ ≠ ((.slice Ao67 t338.length co67) : Value).ownBlock ∧ some k_ ≠ ((.slice Ao71 t310.length co71) : Value).ownBlock ∧ some k_ ≠ ((.slice Ao78 t313.length co78) : Value).ownBlock ∧ some k_ ≠ ((.slice Ao171 t359.length co171) : Value).ownBlock) (.slice Ao169 t356.length co169) t356) ∧ Aside0 (Kd.R (Kd.int .i64) 3 wc w.heap.size (fun k_ => some k_ ≠ ((.slice Ao43 t288.length co43) : Value).ownBlock ∧ some k_ ≠ ((.slice Ao45 t291.length co45) : Value).ownBlock ∧ some k_ ≠ ((.slice Ao51 t334.length co51) : Value).ownBlock ∧ some k_ ≠ ((.slice Ao56 t335.length co56) : Value).ownBlock ∧ some k_ ≠ ((.slice Ao61 t337.length co61) : Value).ownBlock ∧ some k_ ≠ ((.slice Ao67 t338.length co67) : Value).ownBlock ∧ some k_ ≠ ((.slice Ao71 t310.length co71) : Value).ownBlock ∧ some k_ ≠ ((.slice Ao78 t313.length co78) : Value).ownBlock ∧ some k_ ≠ ((.slice Ao169 t356.length co169) : Value).ownBlock) (.slice Ao171 t359.length co171) t359) ∧ Aside0 (wc.heap[gb272]? = some (.cells #[(.slice A0_0 l0_0.length c0_0), (.slice A0_1 l0_1.length c0_1)] 24 (0, 0))) ∧ Aside0 (wc.heap[gb273]? = some (.cells #[(.slice A1_0 l1_0.length c1_0), (.slice A1_1 l1_1.length c1_1)] 24 (0, 0))) ∧ Aside0 (wc.heap[gb295]? = some (.cells #[(.slice Ao43 t288.length co43), (.slice Ao45 t291.length co45)] 26 (0, 0))) ∧ Aside0 (wc.heap[gb302]? = some (.cells #[(.slice Ao51 t334.length co51), (.slice Ao56 t335.length co56)] 26 (0, 0))) ∧ Aside0 (wc.heap[gb309]? = some (.cells #[(.slice Ao61 t337.length co61), (.slice Ao67 t338.length co67)] 26 (0, 0))) ∧ Aside0 (wc.heap[gb317]? = some (.cells #[(.slice Ao71 t310.length co71), (.slice Ao78 t313.length co78)] 26 (0, 0))) ∧ Aside0 (wc.heap[gb363]? = some (.cells #[(.slice Ao169 t356.length co169), (.slice Ao171 t359.length co171)] 26 (0, 0))) ∧ Aside0 (Below w.heap.size w wc))
             case first =>
              have H := HC149.out
              clear HC149
              replace H := Option.bind_eq_some_iff.mp H
              obtain ⟨t364, A1730, H⟩ := H
              replace H : (if t364 = true then (laws_FnExactCopy.j2 kj101 t340 (t362 != t294) t341 t342) else (laws_FnExactCopy.j2 kj101 t340 true t341 t342)) = some r := H
              have A173 := Aside0.mk A1730
              clear A1730
              by_cases c174 : t364 = true
              ·
               subst c174
               have H1 : (laws_FnExactCopy.j2 kj101 t340 (t362 != t294) t341 t342) = some r := by rw [if_pos rfl] at H; exact H
               clear H
               have H := H1
               clear H1
               have H' := Aside0.mk H
               clear H
               have hnb175 := NB363_272.out
               have hnc175 := NB272_363.out
               have hnb176 := NB363_273.out
               have hnc176 := NB273_363.out
               have hnb177 := NB363_295.out
               have hnc177 := NB295_363.out
               have hnb178 := NB363_302.out
               have hnc178 := NB302_363.out
               have hnb179 := NB363_309.out
               have hnc179 := NB309_363.out
               have hnb180 := NB363_317.out
               have hnc180 := NB317_363.out
               have hcz181_0 : w168.cell? ⟨gb363, 0, none⟩ = some (.slice none 0 0) := (blk_cell BK363.out 0).trans rfl
               have hcz181_1 : w168.cell? ⟨gb363, 1, none⟩ = some (.slice none 0 0) := (blk_cell BK363.out 1).trans rfl
               have hfz181_0 := blk_frozen BK363.out 0
               have hfz181_1 := blk_frozen BK363.out 1
               have hnb182 := NB295_272.out
               have hnc182 := NB272_295.out
               have hnb183 := NB295_273.out
               have hnc183 := NB273_295.out
               have hnb184 := NB295_302.out
               have hnc184 := NB302_295.out
               have hnb185 := NB295_309.out
               have hnc185 := NB309_295.out
               have hnb186 := NB295_317.out
               have hnc186 := NB317_295.out
               have hcz187_0 : w168.cell? ⟨gb295, 0, none⟩ = some (.slice Ao43 t288.length co43) := (blk_cell BK295.out 0).trans rfl
               have hcz187_1 : w168.cell? ⟨gb295, 1, none⟩ = some (.slice Ao45 t291.length co45) := (blk_cell BK295.out 1).trans rfl
               have hfz187_0 := blk_frozen BK295.out 0
               have hfz187_1 := blk_frozen BK295.out 1
               go_wp2_with (first | ((with_reducible refine gate_callee (f := 19) rfl ?_); refine goesL_ (some 104) rfl rfl Try.func19 (by kernel_rfl) rfl #[.agg #[.slice Ao169 t356.length co169, .slice Ao171 t359.length co171], .agg #[.slice Ao43 t288.length co43, .slice Ao45 t291.length co45]] rfl (by (try simp only [List.map_toArray, List.map_cons, List.map_nil]); first | done | rfl | (simp only [List.length_drop, List.length_take]; rfl)) ?_; (with_reducible refine (laws_eqArray.calls kj101 _ _ t356 _ _ t359 _ _ t288 _ _ t291 true _ ?side1 ?side2 ?side3 ?side4 ?side5 ?side6 ?side7 ?side8 A173.out).mono ?_); (case side1 => refine (Kd.R_reads' (e := 3) (base := w.heap.size) (ok := fun k_ => (some k_ ≠ (v345 : Value).ownBlock ∧ (some k_ ≠ (v348 : Value).ownBlock ∧ (some k_ ≠ (v351 : Value).ownBlock ∧ (some k_ ≠ (v354 : Value).ownBlock ∧ (some k_ ≠ (.slice Ao171 t359.length co171 : Value).ownBlock ∧ (some k_ ≠ (.slice Ao43 t288.length co43 : Value).ownBlock ∧ (some k_ ≠ (.slice Ao45 t291.length co45 : Value).ownBlock ∧ (some k_ ≠ (.slice Ao51 t334.length co51 : Value).ownBlock ∧ (some k_ ≠ (.slice Ao56 t335.length co56 : Value).ownBlock ∧ (some k_ ≠ (.slice Ao61 t337.length co61 : Value).ownBlock ∧ (some k_ ≠ (.slice Ao67 t338.length co67 : Value).ownBlock ∧ (some k_ ≠ (.slice Ao71 t310.length co71 : Value).ownBlock ∧ some k_ ≠ (.slice Ao78 t313.length co78 : Value).ownBlock))))))))))))) (n := t356.length) (c := co169) ?_).2.2; exact (by (with_reducible repeat (first | apply Kd.R_alloc | apply Kd.R_drewN | apply Kd.R_drew)); exact (far2 HO358.out BK363.out))); (case side2 => exact (Kd.R_reads' HO358.out).2.1); (case side3 => refine (Kd.R_reads' (e := 3) (base := w.heap.size) (ok := fun k_ => (some k_ ≠ (v345 : Value).ownBlock ∧ (some k_ ≠ (v348 : Value).ownBlock ∧ (some k_ ≠ (v351 : Value).ownBlock ∧ (some k_ ≠ (v354 : Value).ownBlock ∧ (some k_ ≠ (.slice Ao169 t356.length co169 : Value).ownBlock ∧ (some k_ ≠ (.slice Ao43 t288.length co43 : Value).ownBlock ∧ (some k_ ≠ (.slice Ao45 t291.length co45 : Value).ownBlock ∧ (some k_ ≠ (.slice Ao51 t334.length co51 : Value).ownBlock ∧ (some k_ ≠ (.slice Ao56 t335.length co56 : Value).ownBlock ∧ (some k_ ≠ (.slice Ao61 t337.length co61 : Value).ownBlock ∧ (some k_ ≠ (.slice Ao67 t338.length co67 : Value).ownBlock ∧ (some k_ ≠ (.slice Ao71 t310.length co71 : Value).ownBlock ∧ some k_ ≠ (.slice Ao78 t313.length co78 : Value).ownBlock))))))))))))) (n := t359.length) (c := co171) ?_).2.2; exact (by (with_reducible repeat (first | apply Kd.R_alloc | apply Kd.R_drewN | apply Kd.R_drew)); exact (far2 HO361.out BK363.out))); (case side4 => exact (Kd.R_reads' HO361.out).2.1); (case side5 => refine (Kd.R_reads' (e := 3) (base := w.heap.size) (ok := fun k_ => (some k_ ≠ (v345 : Value).ownBlock ∧ (some k_ ≠ (v348 : Value).ownBlock ∧ (some k_ ≠ (v351 : Value).ownBlock ∧ (some k_ ≠ (v354 : Value).ownBlock ∧ (some k_ ≠ (.slice Ao169 t356.length co169 : Value).ownBlock ∧ (some k_ ≠ (.slice Ao171 t359.length co171 : Value).ownBlock ∧ (some k_ ≠ (.slice Ao45 t291.length co45 : Value).ownBlock ∧ (some k_ ≠ (.slice Ao51 t334.length co51 : Value).ownBlock ∧ (some k_ ≠ (.slice Ao56 t335.length co56 : Value).ownBlock ∧ (some k_ ≠ (.slice Ao61 t337.length co61 : Value).ownBlock ∧ (some k_ ≠ (.slice Ao67 t338.length co67 : Value).ownBlock ∧ (some k_ ≠ (.slice Ao71 t310.length co71 : Value).ownBlock ∧ some k_ ≠ (.slice Ao78 t313.length co78 : Value).ownBlock))))))))))))) (n := t288.length) (c := co43) ?_).2.2; exact (by (with_reducible repeat (first | apply Kd.R_alloc | apply Kd.R_drewN | apply Kd.R_drew)); exact (far2 HO_296000.out BK363.out))); (case side6 => exact (Kd.R_reads' HO_296000.out).2.1); (case side7 => refine (Kd.R_reads' (e := 3) (base := w.heap.size) (ok := fun k_ => (some k_ ≠ (v345 : Value).ownBlock ∧ (some k_ ≠ (v348 : Value).ownBlock ∧ (some k_ ≠ (v351 : Value).ownBlock ∧ (some k_ ≠ (v354 : Value).ownBlock ∧ (some k_ ≠ (.slice Ao169 t356.length co169 : Value).ownBlock ∧ (some k_ ≠ (.slice Ao171 t359.length co171 : Value).ownBlock ∧ (some k_ ≠ (.slice Ao43 t288.length co43 : Value).ownBlock ∧ (some k_ ≠ (.slice Ao51 t334.length co51 : Value).ownBlock ∧ (some k_ ≠ (.slice Ao56 t335.length co56 : Value).ownBlock ∧ (some k_ ≠ (.slice Ao61 t337.length co61 : Value).ownBlock ∧ (some k_ ≠ (.slice Ao67 t338.length co67 : Value).ownBlock ∧ (some k_ ≠ (.slice Ao71 t310.length co71 : Value).ownBlock ∧ some k_ ≠ (.slice Ao78 t313.length co78 : Value).ownBlock))))))))))))) (n := t291.length) (c := co45) ?_).2.2; exact (by (with_reducible repeat (first | apply Kd.R_alloc | apply Kd.R_drewN | apply Kd.R_drew)); exact (far2 HO_296001.out BK363.out))); (case side8 => exact (Kd.R_reads' HO_296001.out).2.1); rintro e w188 ⟨rfl, hb⟩; refine ⟨_, rfl, ?_⟩; replace HO_296000 := Aside0.mk (Kd.R_below (by (with_reducible repeat (first | apply Kd.R_alloc | apply Kd.R_drewN | apply Kd.R_drew)); exact (far2 HO_296000.out BK363.out)) hb); replace HO_296001 := Aside0.mk (Kd.R_below (by (with_reducible repeat (first | apply Kd.R_alloc | apply Kd.R_drewN | apply Kd.R_drew)); exact (far2 HO_296001.out BK363.out)) hb); replace HO_303000 := Aside0.mk (Kd.R_below (by (with_reducible repeat (first | apply Kd.R_alloc | apply Kd.R_drewN | apply Kd.R_drew)); exact (far2 HO_303000.out BK363.out)) hb); replace HO_303001 := Aside0.mk (Kd.R_below (by (with_reducible repeat (first | apply Kd.R_alloc | apply Kd.R_drewN | apply Kd.R_drew)); exact (far2 HO_303001.out BK363.out)) hb); replace HO_310000 := Aside0.mk (Kd.R_below (by (with_reducible repeat (first | apply Kd.R_alloc | apply Kd.R_drewN | apply Kd.R_drew)); exact (far2 HO_310000.out BK363.out)) hb); replace HO_310001 := Aside0.mk (Kd.R_below (by (with_reducible repeat (first | apply Kd.R_alloc | apply Kd.R_drewN | apply Kd.R_drew)); exact (far2 HO_310001.out BK363.out)) hb); replace HO_318000 := Aside0.mk (Kd.R_below (by (with_reducible repeat (first | apply Kd.R_alloc | apply Kd.R_drewN | apply Kd.R_drew)); exact (far2 HO_318000.out BK363.out)) hb); replace HO_318001 := Aside0.mk (Kd.R_below (by (with_reducible repeat (first | apply Kd.R_alloc | apply Kd.R_drewN | apply Kd.R_drew)); exact (far2 HO_318001.out BK363.out)) hb); replace HO346 := Aside0.mk (Kd.R_below (by (with_reducible repeat (first | apply Kd.R_alloc | apply Kd.R_drewN | apply Kd.R_drew)); exact (far2 HO346.out BK363.out)) hb); replace HO349 := Aside0.mk (Kd.R_below (by (with_reducible repeat (first | apply Kd.R_alloc | apply Kd.R_drewN | apply Kd.R_drew)); exact (far2 HO349.out BK363.out)) hb); replace HO352 := Aside0.mk (Kd.R_below (by (with_reducible repeat (first | apply Kd.R_alloc | apply Kd.R_drewN | apply Kd.R_drew)); exact (far2 HO352.out BK363.out)) hb); replace HO355 := Aside0.mk (Kd.R_below (by (with_reducible repeat (first | apply Kd.R_alloc | apply Kd.R_drewN | apply Kd.R_drew)); exact (far2 HO355.out BK363.out)) hb); replace HO358 := Aside0.mk (Kd.R_below (by (with_reducible repeat (first | apply Kd.R_alloc | apply Kd.R_drewN | apply Kd.R_drew)); exact (far2 HO358.out BK363.out)) hb); replace HO361 := Aside0.mk (Kd.R_below (by (with_reducible repeat (first | apply Kd.R_alloc | apply Kd.R_drewN | apply Kd.R_drew)); exact (far2 HO361.out BK363.out)) hb); replace BK272 := Aside0.mk (blk_below (g := gb272) (o := .cells #[.slice A0_0 l0_0.length c0_0, .slice A0_1 l0_1.length c0_1] 24 (0, 0)) (by (with_reducible repeat (first | refine blk_drewN ?_ _ | refine blk_drew ?_ | refine blk_alloc ?_ _)); refine blk_far ?_ NB272_363.out _; (with_reducible repeat (first | refine blk_drewN ?_ _ | refine blk_drew ?_ | refine blk_alloc ?_ _)); refine blk_far ?_ NB272_363.out _; (with_reducible repeat (first | refine blk_drewN ?_ _ | refine blk_drew ?_ | refine blk_alloc ?_ _)); exact BK272.out) hb); replace BK273 := Aside0.mk (blk_below (g := gb273) (o := .cells #[.slice A1_0 l1_0.length c1_0, .slice A1_1 l1_1.length c1_1] 24 (0, 0)) (by (with_reducible repeat (first | refine blk_drewN ?_ _ | refine blk_drew ?_ | refine blk_alloc ?_ _)); refine blk_far ?_ NB273_363.out _; (with_reducible repeat (first | refine blk_drewN ?_ _ | refine blk_drew ?_ | refine blk_alloc ?_ _)); refine blk_far ?_ NB273_363.out _; (with_reducible repeat (first | refine blk_drewN ?_ _ | refine blk_drew ?_ | refine blk_alloc ?_ _)); exact BK273.out) hb); replace BK295 := Aside0.mk (blk_below (g := gb295) (o := .cells #[.slice Ao43 t288.length co43, .slice Ao45 t291.length co45] 26 (0, 0)) (by (with_reducible repeat (first | refine blk_drewN ?_ _ | refine blk_drew ?_ | refine blk_alloc ?_ _)); refine blk_far ?_ NB295_363.out _; (with_reducible repeat (first | refine blk_drewN ?_ _ | refine blk_drew ?_ | refine blk_alloc ?_ _)); refine blk_far ?_ NB295_363.out _; (with_reducible repeat (first | refine blk_drewN ?_ _ | refine blk_drew ?_ | refine blk_alloc ?_ _)); exact BK295.out) hb); replace BK302 := Aside0.mk (blk_below (g := gb302) (o := .cells #[.slice Ao51 t334.length co51, .slice Ao56 t335.length co56] 26 (0, 0)) (by (with_reducible repeat (first | refine blk_drewN ?_ _ | refine blk_drew ?_ | refine blk_alloc ?_ _)); refine blk_far ?_ NB302_363.out _; (with_reducible repeat (first | refine blk_drewN ?_ _ | refine blk_drew ?_ | refine blk_alloc ?_ _)); refine blk_far ?_ NB302_363.out _; (with_reducible repeat (first | refine blk_drewN ?_ _ | refine blk_drew ?_ | refine blk_alloc ?_ _)); exact BK302.out) hb); replace BK309 := Aside0.mk (blk_below (g := gb309) (o := .cells #[.slice Ao61 t337.length co61, .slice Ao67 t338.length co67] 26 (0, 0)) (by (with_reducible repeat (first | refine blk_drewN ?_ _ | refine blk_drew ?_ | refine blk_alloc ?_ _)); refine blk_far ?_ NB309_363.out _; (with_reducible repeat (first | refine blk_drewN ?_ _ | refine blk_drew ?_ | refine blk_alloc ?_ _)); refine blk_far ?_ NB309_363.out _; (with_reducible repeat (first | refine blk_drewN ?_ _ | refine blk_drew ?_ | refine blk_alloc ?_ _)); exact BK309.out) hb); replace BK317 := Aside0.mk (blk_below (g := gb317) (o := .cells #[.slice Ao71 t310.length co71, .slice Ao78 t313.length co78] 26 (0, 0)) (by (with_reducible repeat (first | refine blk_drewN ?_ _ | refine blk_drew ?_ | refine blk_alloc ?_ _)); refine blk_far ?_ NB317_363.out _; (with_reducible repeat (first | refine blk_drewN ?_ _ | refine blk_drew ?_ | refine blk_alloc ?_ _)); refine blk_far ?_ NB317_363.out _; (with_reducible repeat (first | refine blk_drewN ?_ _ | refine blk_drew ?_ | refine blk_alloc ?_ _)); exact BK317.out) hb); replace BK363 := Aside0.mk (blk_below (g := gb363) (o := .cells #[.slice Ao169 t356.length co169, .slice Ao171 t359.length co171] 26 (0, 0)) (by (with_reducible repeat (first | refine blk_drewN ?_ _ | refine blk_drew ?_ | refine blk_alloc ?_ _)); refine blk_put (cs := #[.slice Ao169 t356.length co169, .slice none 0 0]) ?_ 1 _ rfl; (with_reducible repeat (first | refine blk_drewN ?_ _ | refine blk_drew ?_ | refine blk_alloc ?_ _)); refine blk_put (cs := #[.slice none 0 0, .slice none 0 0]) ?_ 0 _ rfl; (with_reducible repeat (first | refine blk_drewN ?_ _ | refine blk_drew ?_ | refine blk_alloc ?_ _)); exact BK363.out) hb); replace HB := Aside0.mk (below_step (bS7 HB.out GE272.out GE273.out GE295.out GE302.out GE309.out GE317.out GE363.out) hb); (try clear hb); (try clear hb2); (try clear hk); (try clear hi)))
               go_meet
               case rel => exact ⟨_, ((t362 != t294)), (by first | rfl | (simp; done) | (simp [*]; done)), H', ⟨by have := HJ24.out; have := HJ101.out; first | omega | exact Nat.le_refl _⟩, ⟨by (try simp only [hl303000_101]); (try simp only [hl303001_101]); (try simp only [hl310000_101]); (try simp only [hl310001_101]); (with_reducible repeat (first | apply Kd.R_alloc | apply Kd.R_drewN | apply Kd.R_drew)); exact Kd.R_mono HO_296000.out (fun _ hk => ⟨hk.2.2.2.2.2.2.1, ⟨hk.2.2.2.2.2.2.2.1, ⟨hk.2.2.2.2.2.2.2.2.1, ⟨hk.2.2.2.2.2.2.2.2.2.1, ⟨hk.2.2.2.2.2.2.2.2.2.2.1, ⟨hk.2.2.2.2.2.2.2.2.2.2.2.1, ⟨hk.2.2.2.2.2.2.2.2.2.2.2.2, ⟨hk.2.2.2.2.1, hk.2.2.2.2.2.1⟩⟩⟩⟩⟩⟩⟩⟩)⟩, ⟨by (try simp only [hl303000_101]); (try simp only [hl303001_101]); (try simp only [hl310000_101]); (try simp only [hl310001_101]); (with_reducible repeat (first | apply Kd.R_alloc | apply Kd.R_drewN | apply Kd.R_drew)); exact Kd.R_mono HO_296001.out (fun _ hk => ⟨hk.2.2.2.2.2.2.1, ⟨hk.2.2.2.2.2.2.2.1, ⟨hk.2.2.2.2.2.2.2.2.1, ⟨hk.2.2.2.2.2.2.2.2.2.1, ⟨hk.2.2.2.2.2.2.2.2.2.2.1, ⟨hk.2.2.2.2.2.2.2.2.2.2.2.1, ⟨hk.2.2.2.2.2.2.2.2.2.2.2.2, ⟨hk.2.2.2.2.1, hk.2.2.2.2.2.1⟩⟩⟩⟩⟩⟩⟩⟩)⟩, ⟨by (try simp only [hl303000_101]); (try simp only [hl303001_101]); (try simp only [hl310000_101]); (try simp only [hl310001_101]); (with_reducible repeat (first | apply Kd.R_alloc | apply Kd.R_drewN | apply Kd.R_drew)); exact Kd.R_mono HO_303000.out (fun _ hk => ⟨hk.2.2.2.2.2.2.1, ⟨hk.2.2.2.2.2.2.2.1, ⟨hk.2.2.2.2.2.2.2.2.1, ⟨hk.2.2.2.2.2.2.2.2.2.1, ⟨hk.2.2.2.2.2.2.2.2.2.2.1, ⟨hk.2.2.2.2.2.2.2.2.2.2.2.1, ⟨hk.2.2.2.2.2.2.2.2.2.2.2.2, ⟨hk.2.2.2.2.1, hk.2.2.2.2.2.1⟩⟩⟩⟩⟩⟩⟩⟩)⟩, ⟨by (try simp only [hl303000_101]); (try simp only [hl303001_101]); (try simp only [hl310000_101]); (try simp only [hl310001_101]); (with_reducible repeat (first | apply Kd.R_alloc | apply Kd.R_drewN | apply Kd.R_drew)); exact Kd.R_mono HO_303001.out (fun _ hk => ⟨hk.2.2.2.2.2.2.1, ⟨hk.2.2.2.2.2.2.2.1, ⟨hk.2.2.2.2.2.2.2.2.1, ⟨hk.2.2.2.2.2.2.2.2.2.1, ⟨hk.2.2.2.2.2.2.2.2.2.2.1, ⟨hk.2.2.2.2.2.2.2.2.2.2.2.1, ⟨hk.2.2.2.2.2.2.2.2.2.2.2.2, ⟨hk.2.2.2.2.1, hk.2.2.2.2.2.1⟩⟩⟩⟩⟩⟩⟩⟩)⟩, ⟨by (try simp only [hl303000_101]); (try simp only [hl303001_101]); (try simp only [hl310000_101]); (try simp only [hl310001_101]); (with_reducible repeat (first | apply Kd.R_alloc | apply Kd.R_drewN | apply Kd.R_drew)); exact Kd.R_mono HO_310000.out (fun _ hk => ⟨hk.2.2.2.2.2.2.1, ⟨hk.2.2.2.2.2.2.2.1, ⟨hk.2.2.2.2.2.2.2.2.1, ⟨hk.2.2.2.2.2.2.2.2.2.1, ⟨hk.2.2.2.2.2.2.2.2.2.2.1, ⟨hk.2.2.2.2.2.2.2.2.2.2.2.1, ⟨hk.2.2.2.2.2.2.2.2.2.2.2.2, ⟨hk.2.2.2.2.1, hk.2.2.2.2.2.1⟩⟩⟩⟩⟩⟩⟩⟩)⟩, ⟨by (try simp only [hl303000_101]); (try simp only [hl303001_101]); (try simp only [hl310000_101]); (try simp only [hl310001_101]); (with_reducible repeat (first | apply Kd.R_alloc | apply Kd.R_drewN | apply Kd.R_drew)); exact Kd.R_mono HO_310001.out (fun _ hk => ⟨hk.2.2.2.2.2.2.1, ⟨hk.2.2.2.2.2.2.2.1, ⟨hk.2.2.2.2.2.2.2.2.1, ⟨hk.2.2.2.2.2.2.2.2.2.1, ⟨hk.2.2.2.2.2.2.2.2.2.2.1, ⟨hk.2.2.2.2.2.2.2.2.2.2.2.1, ⟨hk.2.2.2.2.2.2.2.2.2.2.2.2, ⟨hk.2.2.2.2.1, hk.2.2.2.2.2.1⟩⟩⟩⟩⟩⟩⟩⟩)⟩, ⟨by (try simp only [hl303000_101]); (try simp only [hl303001_101]); (try simp only [hl310000_101]); (try simp only [hl310001_101]); (with_reducible repeat (first | apply Kd.R_alloc | apply Kd.R_drewN | apply Kd.R_drew)); exact Kd.R_mono HO_318000.out (fun _ hk => ⟨hk.2.2.2.2.2.2.1, ⟨hk.2.2.2.2.2.2.2.1, ⟨hk.2.2.2.2.2.2.2.2.1, ⟨hk.2.2.2.2.2.2.2.2.2.1, ⟨hk.2.2.2.2.2.2.2.2.2.2.1, ⟨hk.2.2.2.2.2.2.2.2.2.2.2.1, ⟨hk.2.2.2.2.2.2.2.2.2.2.2.2, ⟨hk.2.2.2.2.1, hk.2.2.2.2.2.1⟩⟩⟩⟩⟩⟩⟩⟩)⟩, ⟨by (try simp only [hl303000_101]); (try simp only [hl303001_101]); (try simp only [hl310000_101]); (try simp only [hl310001_101]); (with_reducible repeat (first | apply Kd.R_alloc | apply Kd.R_drewN | apply Kd.R_drew)); exact Kd.R_mono HO_318001.out (fun _ hk => ⟨hk.2.2.2.2.2.2.1, ⟨hk.2.2.2.2.2.2.2.1, ⟨hk.2.2.2.2.2.2.2.2.1, ⟨hk.2.2.2.2.2.2.2.2.2.1, ⟨hk.2.2.2.2.2.2.2.2.2.2.1, ⟨hk.2.2.2.2.2.2.2.2.2.2.2.1, ⟨hk.2.2.2.2.2.2.2.2.2.2.2.2, ⟨hk.2.2.2.2.1, hk.2.2.2.2.2.1⟩⟩⟩⟩⟩⟩⟩⟩)⟩, ⟨by (try simp only [hl303000_101]); (try simp only [hl303001_101]); (try simp only [hl310000_101]); (try simp only [hl310001_101]); (with_reducible repeat (first | apply Kd.R_alloc | apply Kd.R_drewN | apply Kd.R_drew)); exact Kd.R_mono HO358.out (fun _ hk => ⟨hk.2.2.2.2.2.1, ⟨hk.2.2.2.2.2.2.1, ⟨hk.2.2.2.2.2.2.2.1, ⟨hk.2.2.2.2.2.2.2.2.1, ⟨hk.2.2.2.2.2.2.2.2.2.1, ⟨hk.2.2.2.2.2.2.2.2.2.2.1, ⟨hk.2.2.2.2.2.2.2.2.2.2.2.1, ⟨hk.2.2.2.2.2.2.2.2.2.2.2.2, hk.2.2.2.2.1⟩⟩⟩⟩⟩⟩⟩⟩)⟩, ⟨by (try simp only [hl303000_101]); (try simp only [hl303001_101]); (try simp only [hl310000_101]); (try simp only [hl310001_101]); (with_reducible repeat (first | apply Kd.R_alloc | apply Kd.R_drewN | apply Kd.R_drew)); exact Kd.R_mono HO361.out (fun _ hk => ⟨hk.2.2.2.2.2.1, ⟨hk.2.2.2.2.2.2.1, ⟨hk.2.2.2.2.2.2.2.1, ⟨hk.2.2.2.2.2.2.2.2.1, ⟨hk.2.2.2.2.2.2.2.2.2.1, ⟨hk.2.2.2.2.2.2.2.2.2.2.1, ⟨hk.2.2.2.2.2.2.2.2.2.2.2.1, ⟨hk.2.2.2.2.2.2.2.2.2.2.2.2, hk.2.2.2.2.1⟩⟩⟩⟩⟩⟩⟩⟩)⟩, ⟨by (try simp only [hl303000_101]); (try simp only [hl303001_101]); (try simp only [hl310000_101]); (try simp only [hl310001_101]); (with_reducible repeat (first | refine blk_drewN ?_ _ | refine blk_drew ?_ | refine blk_alloc ?_ _)); exact BK272.out⟩, ⟨by (try simp only [hl303000_101]); (try simp only [hl303001_101]); (try simp only [hl310000_101]); (try simp only [hl310001_101]); (with_reducible repeat (first | refine blk_drewN ?_ _ | refine blk_drew ?_ | refine blk_alloc ?_ _)); exact BK273.out⟩, ⟨by (try simp only [hl303000_101]); (try simp only [hl303001_101]); (try simp only [hl310000_101]); (try simp only [hl310001_101]); (with_reducible repeat (first | refine blk_drewN ?_ _ | refine blk_drew ?_ | refine blk_alloc ?_ _)); exact BK295.out⟩, ⟨by (try simp only [hl303000_101]); (try simp only [hl303001_101]); (try simp only [hl310000_101]); (try simp only [hl310001_101]); (with_reducible repeat (first | refine blk_drewN ?_ _ | refine blk_drew ?_ | refine blk_alloc ?_ _)); exact BK302.out⟩, ⟨by (try simp only [hl303000_101]); (try simp only [hl303001_101]); (try simp only [hl310000_101]); (try simp only [hl310001_101]); (with_reducible repeat (first | refine blk_drewN ?_ _ | refine blk_drew ?_ | refine blk_alloc ?_ _)); exact BK309.out⟩, ⟨by (try simp only [hl303000_101]); (try simp only [hl303001_101]); (try simp only [hl310000_101]); (try simp only [hl310001_101]); (with_reducible repeat (first | refine blk_drewN ?_ _ | refine blk_drew ?_ | refine blk_alloc ?_ _)); exact BK317.out⟩, ⟨by (try simp only [hl303000_101]); (try simp only [hl303001_101]); (try simp only [hl310000_101]); (try simp only [hl310001_101]); (with_reducible repeat (first | refine blk_drewN ?_ _ | refine blk_drew ?_ | refine blk_alloc ?_ _)); exact BK363.out⟩, ⟨by exact bS7 HB.out GE272.out GE273.out GE295.out GE302.out GE309.out GE317.out GE363.out⟩⟩
              ·
               replace c174 := Bool.eq_false_iff.mpr c174
               subst c174
               have H1 : (laws_FnExactCopy.j2 kj101 t340 true t341 t342) = some r := by rw [if_neg (show ¬ (false = true) by decide)] at H; exact H
               clear H
               have H := H1
               clear H1
               have hz_ : ∀ kz, laws_FnExactCopy.j2 kz t340 true t341 t342 = some r → r = false := by intro kz hz; cases kz with | zero => exact absurd hz (by simp [laws_FnExactCopy.j2]) | succ kz => simp only [laws_FnExactCopy.j2] at hz; first | (rw [if_pos rfl] at hz; exact (Option.some.inj hz).symm) | (simp at hz; exact hz.symm) | (simp at hz; exact hz)
               exact absurd (HT.out.symm.trans (hz_ _ H)) (by decide)
             case rest =>
              clear HC149
              try clear c1
              try clear p2
              try clear c4
              try clear c17
              try clear c18
              try clear c19
              try clear c44
              try clear c174
              try clear c175
              try clear c176
              try clear c177
              try clear c178
              try clear c179
              try clear c180
              try clear c182
              try clear c183
              try clear c184
              try clear c185
              try clear c186
              try clear hcz181_0
              try clear hcz181_1
              try clear hcz187_0
              try clear hcz187_1
              try clear hfz181_0
              try clear hfz181_1
              try clear hfz187_0
              try clear hfz187_1
              obtain ⟨kq, x110_148, rfl, HA, HJ148, HO_296000, HO_296001, HO_303000, HO_303001, HO_310000, HO_310001, HO_318000, HO_318001, HO_364000, HO_364001, BK272, BK273, BK295, BK302, BK309, BK317, BK363, HB⟩ := hcut
              have hl318000_148 := (Kd.R_reads' HO_318000.out).1
              rw [hl318000_148] at HO_318000
              (try simp only [hl318000_148])
              (try simp only [hl318000_148] at BK272)
              (try simp only [hl318000_148] at BK273)
              (try simp only [hl318000_148] at BK295)
              (try simp only [hl318000_148] at BK302)
              (try simp only [hl318000_148] at BK309)
              (try simp only [hl318000_148] at BK317)
              (try simp only [hl318000_148] at BK363)
              (try simp only [hl318000_148] at HO_296000)
              (try simp only [hl318000_148] at HO_296001)
              (try simp only [hl318000_148] at HO_303000)
              (try simp only [hl318000_148] at HO_303001)
              (try simp only [hl318000_148] at HO_310000)
              (try simp only [hl318000_148] at HO_310001)
              (try simp only [hl318000_148] at HO_318001)
              (try simp only [hl318000_148] at HO_364000)
              (try simp only [hl318000_148] at HO_364001)
              have hl318001_148 := (Kd.R_reads' HO_318001.out).1
              rw [hl318001_148] at HO_318001
              (try simp only [hl318001_148])
              (try simp only [hl318001_148] at BK272)
              (try simp only [hl318001_148] at BK273)
              (try simp only [hl318001_148] at BK295)
              (try simp only [hl318001_148] at BK302)
              (try simp only [hl318001_148] at BK309)
              (try simp only [hl318001_148] at BK317)
              (try simp only [hl318001_148] at BK363)
              (try simp only [hl318001_148] at HO_296000)
              (try simp only [hl318001_148] at HO_296001)
              (try simp only [hl318001_148] at HO_303000)
              (try simp only [hl318001_148] at HO_303001)
              (try simp only [hl318001_148] at HO_310000)
              (try simp only [hl318001_148] at HO_310001)
              (try simp only [hl318001_148] at HO_318000)
              (try simp only [hl318001_148] at HO_364000)
              (try simp only [hl318001_148] at HO_364001)
              cases kq with
              | zero => exact absurd HA.out (by simp [laws_FnExactCopy.j2])
              | succ kj148 =>
               have H := HA.out
               clear HA
               simp only [laws_FnExactCopy.j2] at H
               by_cases c189 : x110_148 = true
               ·
                subst c189
                have H1 : (some false) = some r := by rw [if_pos rfl] at H; exact H
                clear H
                have H := H1
                clear H1
                obtain rfl := Option.some.inj H
                exact absurd HT.out (by decide)
               ·
                replace c189 := Bool.eq_false_iff.mpr c189
                subst c189
                have H1 : ((laws_heldArray.f kj148 t341 t342 1).bind fun t365 => (if t365 < 0 then (some false) else (if t365 = t340 then (some true) else (some false)))) = some r := by rw [if_neg (show ¬ (false = true) by decide)] at H; exact H
                clear H
                have H := H1
                clear H1
                replace H := Option.bind_eq_some_iff.mp H
                obtain ⟨t365, A1900, H⟩ := H
                replace H : (if t365 < 0 then (some false) else (if t365 = t340 then (some true) else (some false))) = some r := H
                have A190 := Aside0.mk A1900
                clear A1900
                by_cases c191 : t365 < 0
                ·
                 rw [if_pos c191] at H
                 have c191b0 : decide (t365 < 0) = true := decide_eq_true c191
                 clear c191
                 obtain rfl := Option.some.inj H
                 exact absurd HT.out (by decide)
                ·
                 rw [if_neg c191] at H
                 have c191b0 : decide (t365 < 0) = false := decide_eq_false c191
                 clear c191
                 by_cases c192 : t365 = t340
                 ·
                  rw [if_pos c192] at H
                  have c192b0 : (t365 == t340) = true := beq_iff_eq.mpr c192
                  have c192b1 : (t365 != t340) = false := bne_eq_false_iff_eq.mpr c192
                  clear c192
                  obtain rfl := Option.some.inj H
                  have hnb193 := NB317_272.out
                  have hnc193 := NB272_317.out
                  have hnb194 := NB317_273.out
                  have hnc194 := NB273_317.out
                  have hnb195 := NB317_295.out
                  have hnc195 := NB295_317.out
                  have hnb196 := NB317_302.out
                  have hnc196 := NB302_317.out
                  have hnb197 := NB317_309.out
                  have hnc197 := NB309_317.out
                  have hnb198 := NB317_363.out
                  have hnc198 := NB363_317.out
                  have hcz199_0 : wc.cell? ⟨gb317, 0, none⟩ = some (.slice Ao71 t341.length co71) := (blk_cell BK317.out 0).trans rfl
                  have hcz199_1 : wc.cell? ⟨gb317, 1, none⟩ = some (.slice Ao78 t342.length co78) := (blk_cell BK317.out 1).trans rfl
                  have hfz199_0 := blk_frozen BK317.out 0
                  have hfz199_1 := blk_frozen BK317.out 1
                  go_wp2_with (first | ((with_reducible refine gate_callee (f := 21) rfl ?_); refine goesL_ (some 113) rfl rfl Try.func21 (by kernel_rfl) rfl #[.agg #[.slice Ao71 t341.length co71, .slice Ao78 t342.length co78], .int .i64 1] rfl (by (try simp only [List.map_toArray, List.map_cons, List.map_nil]); first | done | rfl | (simp only [List.length_drop, List.length_take]; rfl)) ?_; (with_reducible refine (laws_heldArray.calls kj148 _ _ t341 _ _ t342 1 t365 _ ?side1 ?side2 ?side3 ?side4 A190.out).mono ?_); (case side1 => exact cU (Kd.R_reads' HO_318000.out).2.2); (case side2 => exact (Kd.R_reads' HO_318000.out).2.1); (case side3 => exact cU (Kd.R_reads' HO_318001.out).2.2); (case side4 => exact (Kd.R_reads' HO_318001.out).2.1); rintro e w200 ⟨rfl, hb⟩; refine ⟨_, rfl, ?_⟩; replace HO_296000 := Aside0.mk (Kd.R_below (RU HO_296000.out) hb); replace HO_296001 := Aside0.mk (Kd.R_below (RU HO_296001.out) hb); replace HO_303000 := Aside0.mk (Kd.R_below (RU HO_303000.out) hb); replace HO_303001 := Aside0.mk (Kd.R_below (RU HO_303001.out) hb); replace HO_310000 := Aside0.mk (Kd.R_below (RU HO_310000.out) hb); replace HO_310001 := Aside0.mk (Kd.R_below (RU HO_310001.out) hb); replace HO_318000 := Aside0.mk (Kd.R_below (RU HO_318000.out) hb); replace HO_318001 := Aside0.mk (Kd.R_below (RU HO_318001.out) hb); replace HO_364000 := Aside0.mk (Kd.R_below (RU HO_364000.out) hb); replace HO_364001 := Aside0.mk (Kd.R_below (RU HO_364001.out) hb); replace BK272 := Aside0.mk (blk_below (g := gb272) (o := .cells #[.slice A0_0 l0_0.length c0_0, .slice A0_1 l0_1.length c0_1] 24 (0, 0)) (kU BK272.out) hb); replace BK273 := Aside0.mk (blk_below (g := gb273) (o := .cells #[.slice A1_0 l1_0.length c1_0, .slice A1_1 l1_1.length c1_1] 24 (0, 0)) (kU BK273.out) hb); replace BK295 := Aside0.mk (blk_below (g := gb295) (o := .cells #[.slice Ao43 t288.length co43, .slice Ao45 t291.length co45] 26 (0, 0)) (kU BK295.out) hb); replace BK302 := Aside0.mk (blk_below (g := gb302) (o := .cells #[.slice Ao51 t334.length co51, .slice Ao56 t335.length co56] 26 (0, 0)) (kU BK302.out) hb); replace BK309 := Aside0.mk (blk_below (g := gb309) (o := .cells #[.slice Ao61 t337.length co61, .slice Ao67 t338.length co67] 26 (0, 0)) (kU BK309.out) hb); replace BK317 := Aside0.mk (blk_below (g := gb317) (o := .cells #[.slice Ao71 t341.length co71, .slice Ao78 t342.length co78] 26 (0, 0)) (kU BK317.out) hb); replace BK363 := Aside0.mk (blk_below (g := gb363) (o := .cells #[.slice Ao169 t356.length co169, .slice Ao171 t359.length co171] 26 (0, 0)) (kU BK363.out) hb); replace HB := Aside0.mk (below_step (bS7 HB.out GE272.out GE273.out GE295.out GE302.out GE309.out GE317.out GE363.out) hb); (try clear hb); (try clear hb2); (try clear hk); (try clear hi)))
                  go_ret
                  exact ⟨by first | rfl | (simp [errW_none, errW_some] <;> rfl) | (simp [*, errW_none, errW_some] <;> rfl), by exact bS7 HB.out GE272.out GE273.out GE295.out GE302.out GE309.out GE317.out GE363.out⟩
                 ·
                  rw [if_neg c192] at H
                  have c192b0 : (t365 == t340) = false := beq_eq_false_iff_ne.mpr c192
                  have c192b1 : (t365 != t340) = true := bne_iff_ne.mpr c192
                  obtain rfl := Option.some.inj H
                  exact absurd HT.out (by decide)
theorem laws_FnExactCopy.calls (k : Nat) (A0_0 : Option Addr) (c0_0 : Nat) (l0_0 : List Int) (A0_1 : Option Addr) (c0_1 : Nat) (l0_1 : List Int) (A1_0 : Option Addr) (c1_0 : Nat) (l1_0 : List Int) (A1_1 : Option Addr) (c1_1 : Nat) (l1_1 : List Int) (r : Bool) (w : World) (hr0_0 : Kd.C (Kd.int .i64) w A0_0 l0_0.length l0_0) (hc0_0 : l0_0.length ≤ c0_0) (hr0_1 : Kd.C (Kd.int .i64) w A0_1 l0_1.length l0_1) (hc0_1 : l0_1.length ≤ c0_1) (hr1_0 : Kd.C (Kd.int .i64) w A1_0 l1_0.length l1_0) (hc1_0 : l1_0.length ≤ c1_0) (hr1_1 : Kd.C (Kd.int .i64) w A1_1 l1_1.length l1_1) (hc1_1 : l1_1.length ≤ c1_1) (h : laws_FnExactCopy.f k l0_0 l0_1 l1_0 l1_1 = some r) (hT : r = true) :
    Calls Try.prog 9 #[.agg #[.slice A0_0 l0_0.length c0_0, .slice A0_1 l0_1.length c0_1], .agg #[.slice A1_0 l1_0.length c1_0, .slice A1_1 l1_1.length c1_1]] w fun e w' => e = .returned (.bool r) ∧ Below w.heap.size w w' := by
  exact (laws_FnExactCopy.part1.2 fun _ => laws_FnExactCopy.part2) k A0_0 c0_0 l0_0 A0_1 c0_1 l0_1 A1_0 c1_0 l1_0 A1_1 c1_1 l1_1 r w hr0_0 hc0_0 hr0_1 hc0_1 hr1_0 hc1_0 hr1_1 hc1_1 h hT
end Go.Proofs.Ytcnbajdnlkcjjaa.PFnExactCopy
