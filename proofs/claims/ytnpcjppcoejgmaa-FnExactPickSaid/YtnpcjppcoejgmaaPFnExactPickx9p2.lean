/- A law's walk, written in parts: this is part 2. It has no condition of its own. -/
import Derived.Test.YtnpcjppcoejgmaaPFnExactPickx9
namespace Go.Proofs.Ytnpcjppcoejgmaa.PFnExactPick
open Go.RowKit Go.Proofs.YtnpcjppcoejgmaaW.PrintWords Go.Proofs.YtnpcjppcoejgmaaW.PrintLast Go.Proofs.YtnpcjppcoejgmaaW.PrintMore Go.Proofs.YtnpcjppcoejgmaaQ
attribute [local go_sem] max2_int min2_int max_two min_two max_three min_three max_four min_four   -- for this text's walks alone
set_option linter.unusedVariables false
set_option linter.unusedSimpArgs false
set_option maxHeartbeats 8000000 in
set_option maxRecDepth 100000 in
theorem laws_FnExactPick.part2 : laws_FnExactPick.part1.1 := by
             intro k A0_0 c0_0 l0_0 A0_1 c0_1 l0_1 A1_0 c1_0 l1_0 A1_1 c1_1 l1_1 r w HT hu24 hu28 HR0_0 HC0_0 HR0_1 HC0_1 HR1_0 HC1_0 HR1_1 HC1_1 t279 A3 c4b0 t280 A10 c11b0 t281 t284 A19 t287 t290 A20 t293 t296 t299 A21 t301 t304 A22 t308 t311 A23 t315 t318 t321 A24 _ gb277 w26 GW277 GE277 gb278 w27 GW278 GE278 NB277_278 NB278_277 hnb28 hnc28 hcz29_0 hcz29_1 hfz29_0 hfz29_1 w30 hcz31_0 hcz31_1 hfz31_0 hfz31_1 w32 _ _ w33 _ v282 v285 v288 v291 gb300 w42 hS_ GW300 GE300 NB277_300 NB300_277 NB278_300 NB300_278 _ Ao43 co43 Ao45 co45 hs44 hfs44 hns44_0 hns44_1 hms44_0 hms44_1 hs46 hfs46 hns46_0 hns46_1 hms46_0 hms46_1 _ hnb47 hnc47 w49 gb307 w50 GW307 GE307 NB277_307 NB307_277 NB278_307 NB307_278 NB300_307 NB307_300 Ao51 co51 hnb52 hnc52 hnb53 hnc53 hnb54 hnc54 Ao56 co56 hnb57 hnc57 w59 gb314 w60 GW314 GE314 NB277_314 NB314_277 NB278_314 NB314_278 NB300_314 NB314_300 NB307_314 NB314_307 Ao61 co61 hnb62 hnc62 hnb63 hnc63 hnb64 hnc64 hnb65 hnc65 Ao67 co67 w68 w71 gb322 w72 _ GW322 GE322 _ NB277_322 NB322_277 _ NB278_322 NB322_278 _ NB300_322 NB322_300 _ NB307_322 NB322_307 _ NB314_322 NB322_314 _ Ao73 co73 hnb74 hnc74 hnb75 hnc75 hnb76 hnc76 hnb77 hnc77 hnb78 hnc78 Ao80 co80 HO283 HO286 HO289 HO292 HO295 HO298 HO303 HO306 HO310 HO313 HO317 HO320 _ _ _ _ _ _ _ _ _ _ _ _ _ _ _ _ _ _ _ _ _ _ _ _ _ _ _ _ _ _ _ _ _ _ _ _ _ _ _ _ _ _ _ _ _ _ _ _ _ _ _ _ _ _ _ _ _ _ _ _ _ _ _ _ _ u82 _ _ _ _ _ _ _ _ _ _ _ _ _ _ _ _ _ _ _ _ _ _ _ _ _ _ _ _ _ _ _ _ _ _ _ _ kj24 HJ24 t324 t327 A96 A97 t331 t334 A99 A100 t338 t339 t340 A102 t341 t342 t343 A103 w105 _ w106 Ao107 co107 Ao108 co108 _ w109 _ w110 _ w111 Ao112 co112 Ao113 co113 _ w114 _ hnb115 hnc115 hnb116 hnc116 hnb117 hnc117 hnb118 hnc118 hnb119 hnc119 w121 hnb122 hnc122 hnb123 hnc123 hnb124 hnc124 hnb125 hnc125 w127 _ _ _ _ _ _ _ _ _ _ _ _ _ _ HO326 HO329 HO333 HO336 _ wc u17 u18 u19 u20 u21 u22 u23 u24 u25 u26 u27 u28 u29 u30 u31 u32 u33 u34 u35 u36 u37 u38 u39 u40 u41 u42 u43 u44 u45 u46 u47 u48 u49 u50 u51 u52 u53 u54 u55 u56 u57 u58 u59 u60 u61 u62 u63 u64 u65 u66 u67 u68 u69 u70 u71 u72 u73 u74 u75 u76 u77 u78 u79 u80 u81 u83 u84 u85 u86 u87 u88 u89 u90 u91 u92 u93 u94 u95 u96 u97 u98 u99 u100 u101 u102 u103 u104 u105 u106 u107 u108 u109 u110 u111 u112 u113 u114 u115 u116 u117 u118 hl308000_103 hl308001_103 hl315000_103 hl315001_103 kj103 HJ103 t345 t346 t347 A144 t348 A145 c146b0 c147b0 c147b1 t349 t352 A148 t355 t358 A149 t361 t364 t367 A150 HC151 hnb152 hnc152 hnb153 hnc153 hnb154 hnc154 hnb155 hnc155 hnb156 hnc156 hcz157_0 hcz157_1 hfz157_0 hfz157_1 w158 hcz159_0 hcz159_1 hfz159_0 hfz159_1 w160 _ _ HT_ HW_ w161 HO_301000 HO_301001 HO_308000 HO_308001 HO_315000 HO_315001 HO_323000 HO_323001 BK277 BK278 BK300 BK307 BK314 BK322 HB hHeld
             refine join_ (σ := Value × Value × Value × Value × Value × Value × Nat) 2 #[true, true, true, true, true, true, true, true, true, false, false] (fun s_ => [(96, .agg #[s_.1, s_.2.1]), (98, .agg #[s_.2.2.1, s_.2.2.2.1]), (99, .tuple #[.agg #[s_.2.2.2.2.1, s_.2.2.2.2.2.1], .int .i64 t367]), (15, .pointer (some ⟨s_.2.2.2.2.2.2, 0, none⟩)), (94, .tuple #[.agg #[s_.2.2.2.2.1, s_.2.2.2.2.2.1], .int .i64 t367]), (100, .agg #[s_.2.2.2.2.1, s_.2.2.2.2.2.1]), (101, .int .i64 t367)]) (fun s_ w' => (w'.cell? ⟨gb277, 0, none⟩ = some (.slice A0_0 l0_0.length c0_0) ∧ w'.cell? ⟨gb277, 1, none⟩ = some (.slice A0_1 l0_1.length c0_1) ∧ w'.cell? ⟨gb278, 0, none⟩ = some (.slice A1_0 l1_0.length c1_0) ∧ w'.cell? ⟨gb278, 1, none⟩ = some (.slice A1_1 l1_1.length c1_1)) ∧ (Kd.R (Kd.int .i64) 3 w' w.heap.size (fun k_ => some k_ ≠ (s_.2.1 : Value).ownBlock ∧ some k_ ≠ (s_.2.2.1 : Value).ownBlock ∧ some k_ ≠ (s_.2.2.2.1 : Value).ownBlock ∧ some k_ ≠ (s_.2.2.2.2.1 : Value).ownBlock ∧ some k_ ≠ (s_.2.2.2.2.2.1 : Value).ownBlock ∧ some k_ ≠ (.slice Ao43 t293.length co43 : Value).ownBlock ∧ some k_ ≠ (.slice Ao45 t296.length co45 : Value).ownBlock ∧ some k_ ≠ (.slice Ao51 t339.length co51 : Value).ownBlock ∧ some k_ ≠ (.slice Ao56 t340.length co56 : Value).ownBlock ∧ some k_ ≠ (.slice Ao61 t342.length co61 : Value).ownBlock ∧ some k_ ≠ (.slice Ao67 t343.length co67 : Value).ownBlock ∧ some k_ ≠ (.slice Ao73 t315.length co73 : Value).ownBlock ∧ some k_ ≠ (.slice Ao80 t318.length co80 : Value).ownBlock) s_.1 t349) ∧ (Kd.R (Kd.int .i64) 3 w' w.heap.size (fun k_ => some k_ ≠ (s_.1 : Value).ownBlock ∧ some k_ ≠ (s_.2.2.1 : Value).ownBlock ∧ some k_ ≠ (s_.2.2.2.1 : Value).ownBlock ∧ some k_ ≠ (s_.2.2.2.2.1 : Value).ownBlock ∧ some k_ ≠ (s_.2.2.2.2.2.1 : Value).ownBlock ∧ some k_ ≠ (.slice Ao43 t293.length co43 : Value).ownBlock ∧ some k_ ≠ (.slice Ao45 t296.length co45 : Value).ownBlock ∧ some k_ ≠ (.slice Ao51 t339.length co51 : Value).ownBlock ∧ some k_ ≠ (.slice Ao56 t340.length co56 : Value).ownBlock ∧ some k_ ≠ (.slice Ao61 t342.length co61 : Value).ownBlock ∧ some k_ ≠ (.slice Ao67 t343.length co67 : Value).ownBlock ∧ some k_ ≠ (.slice Ao73 t315.length co73 : Value).ownBlock ∧ some k_ ≠ (.slice Ao80 t318.length co80 : Value).ownBlock) s_.2.1 t352) ∧ (Kd.R (Kd.int .i64) 3 w' w.heap.size (fun k_ => some k_ ≠ (s_.1 : Value).ownBlock ∧ some k_ ≠ (s_.2.1 : Value).ownBlock ∧ some k_ ≠ (s_.2.2.2.1 : Value).ownBlock ∧ some k_ ≠ (s_.2.2.2.2.1 : Value).ownBlock ∧ some k_ ≠ (s_.2.2.2.2.2.1 : Value).ownBlock ∧ some k_ ≠ (.slice Ao43 t293.length co43 : Value).ownBlock ∧ some k_ ≠ (.slice Ao45 t296.length co45 : Value).ownBlock ∧ some k_ ≠ (.slice Ao51 t339.length co51 : Value).ownBlock ∧ some k_ ≠ (.slice Ao56 t340.length co56 : Value).ownBlock ∧ some k_ ≠ (.slice Ao61 t342.length co61 : Value).ownBlock ∧ some k_ ≠ (.slice Ao67 t343.length co67 : Value).ownBlock ∧ some k_ ≠ (.slice Ao73 t315.length co73 : Value).ownBlock ∧ some k_ ≠ (.slice Ao80 t318.length co80 : Value).ownBlock) s_.2.2.1 t355) ∧ (Kd.R (Kd.int .i64) 3 w' w.heap.size (fun k_ => some k_ ≠ (s_.1 : Value).ownBlock ∧ some k_ ≠ (s_.2.1 : Value).ownBlock ∧ some k_ ≠ (s_.2.2.1 : Value).ownBlock ∧ some k_ ≠ (s_.2.2.2.2.1 : Value).ownBlock ∧ some k_ ≠ (s_.2.2.2.2.2.1 : Value).ownBlock ∧ some k_ ≠ (.slice Ao43 t293.length co43 : Value).ownBlock ∧ some k_ ≠ (.slice Ao45 t296.length co45 : Value).ownBlock ∧ some k_ ≠ (.slice Ao51 t339.length co51 : Value).ownBlock ∧ some k_ ≠ (.slice Ao56 t340.length co56 : Value).ownBlock ∧ some k_ ≠ (.slice Ao61 t342.length co61 : Value).ownBlock ∧ some k_ ≠ (.slice Ao67 t343.length co67 : Value).ownBlock ∧ some k_ ≠ (.slice Ao73 t315.length co73 : Value).ownBlock ∧ some k_ ≠ (.slice Ao80 t318.length co80 : Value).ownBlock) s_.2.2.2.1 t358) ∧ (Kd.R (Kd.int .i64) 3 w' w.heap.size (fun k_ => some k_ ≠ (s_.1 : Value).ownBlock ∧ some k_ ≠ (s_.2.1 : Value).ownBlock ∧ some k_ ≠ (s_.2.2.1 : Value).ownBlock ∧ some k_ ≠ (s_.2.2.2.1 : Value).ownBlock ∧ some k_ ≠ (s_.2.2.2.2.2.1 : Value).ownBlock ∧ some k_ ≠ (.slice Ao43 t293.length co43 : Value).ownBlock ∧ some k_ ≠ (.slice Ao45 t296.length co45 : Value).ownBlock ∧ some k_ ≠ (.slice Ao51 t339.length co51 : Value).ownBlock ∧ some k_ ≠ (.slice Ao56 t340.length co56 : Value).ownBlock ∧ some k_ ≠ (.slice Ao61 t342.length co61 : Value).ownBlock ∧ some k_ ≠ (.slice Ao67 t343.length co67 : Value).ownBlock ∧ some k_ ≠ (.slice Ao73 t315.length co73 : Value).ownBlock ∧ some k_ ≠ (.slice Ao80 t318.length co80 : Value).ownBlock) s_.2.2.2.2.1 t361) ∧ (Kd.R (Kd.int .i64) 3 w' w.heap.size (fun k_ => some k_ ≠ (s_.1 : Value).ownBlock ∧ some k_ ≠ (s_.2.1 : Value).ownBlock ∧ some k_ ≠ (s_.2.2.1 : Value).ownBlock ∧ some k_ ≠ (s_.2.2.2.1 : Value).ownBlock ∧ some k_ ≠ (s_.2.2.2.2.1 : Value).ownBlock ∧ some k_ ≠ (.slice Ao43 t293.length co43 : Value).ownBlock ∧ some k_ ≠ (.slice Ao45 t296.length co45 : Value).ownBlock ∧ some k_ ≠ (.slice Ao51 t339.length co51 : Value).ownBlock ∧ some k_ ≠ (.slice Ao56 t340.length co56 : Value).ownBlock ∧ some k_ ≠ (.slice Ao61 t342.length co61 : Value).ownBlock ∧ some k_ ≠ (.slice Ao67 t343.length co67 : Value).ownBlock ∧ some k_ ≠ (.slice Ao73 t315.length co73 : Value).ownBlock ∧ some k_ ≠ (.slice Ao80 t318.length co80 : Value).ownBlock) s_.2.2.2.2.2.1 t364) ∧ (Kd.R (Kd.int .i64) 3 w' w.heap.size (fun k_ => some k_ ≠ (s_.1 : Value).ownBlock ∧ some k_ ≠ (s_.2.1 : Value).ownBlock ∧ some k_ ≠ (s_.2.2.1 : Value).ownBlock ∧ some k_ ≠ (s_.2.2.2.1 : Value).ownBlock ∧ some k_ ≠ (s_.2.2.2.2.1 : Value).ownBlock ∧ some k_ ≠ (s_.2.2.2.2.2.1 : Value).ownBlock ∧ some k_ ≠ (.slice Ao45 t296.length co45 : Value).ownBlock ∧ some k_ ≠ (.slice Ao51 t339.length co51 : Value).ownBlock ∧ some k_ ≠ (.slice Ao56 t340.length co56 : Value).ownBlock ∧ some k_ ≠ (.slice Ao61 t342.length co61 : Value).ownBlock ∧ some k_ ≠ (.slice Ao67 t343.length co67 : Value).ownBlock ∧ some k_ ≠ (.slice Ao73 t315.length co73 : Value).ownBlock ∧ some k_ ≠ (.slice Ao80 t318.length co80 : Value).ownBlock) (.slice Ao43 t293.length co43) t293) ∧ (Kd.R (Kd.int .i64) 3 w' w.heap.size (fun k_ => some k_ ≠ (s_.1 : Value).ownBlock ∧ some k_ ≠ (s_.2.1 : Value).ownBlock ∧ some k_ ≠ (s_.2.2.1 : Value).ownBlock ∧ some k_ ≠ (s_.2.2.2.1 : Value).ownBlock ∧ some k_ ≠ (s_.2.2.2.2.1 : Value).ownBlock ∧ some k_ ≠ (s_.2.2.2.2.2.1 : Value).ownBlock ∧ some k_ ≠ (.slice Ao43 t293.length co43 : Value).ownBlock ∧ some k_ ≠ (.slice Ao51 t339.length co51 : Value).ownBlock ∧ some k_ ≠ (.slice Ao56 t340.length co56 : Value).ownBlock ∧ some k_ ≠ (.slice Ao61 t342.length co61 : Value).ownBlock ∧ some k_ ≠ (.slice Ao67 t343.length co67 : Value).ownBlock ∧ some k_ ≠ (.slice Ao73 t315.length co73 : Value).ownBlock ∧ some k_ ≠ (.slice Ao80 t318.length co80 : Value).ownBlock) (.slice Ao45 t296.length co45) t296) ∧ (Kd.R (Kd.int .i64) 3 w' w.heap.size (fun k_ => some k_ ≠ (s_.1 : Value).ownBlock ∧ some k_ ≠ (s_.2.1 : Value).ownBlock ∧ some k_ ≠ (s_.2.2.1 : Value).ownBlock ∧ some k_ ≠ (s_.2.2.2.1 : Value).ownBlock ∧ some k_ ≠ (s_.2.2.2.2.1 : Value).ownBlock ∧ some k_ ≠ (s_.2.2.2.2.2.1 : Value).ownBlock ∧ some k_ ≠ (.slice Ao43 t293.length co43 : Value).ownBlock ∧ some k_ ≠ (.slice Ao45 t296.length co45 : Value).ownBlock ∧ some k_ ≠ (.slice Ao56 t340.length co56 : Value).ownBlock ∧ some k_ ≠ (.slice Ao61 t342.length co61 : Value).ownBlock ∧ some k_ ≠ (.slice Ao67 t343.length co67 : Value).ownBlock ∧ some k_ ≠ (.slice Ao73 t315.length co73 : Value).ownBlock ∧ some k_ ≠ (.slice Ao80 t318.length co80 : Value).ownBlock) (.slice Ao51 t339.length co51) t339) ∧ (Kd.R (Kd.int .i64) 3 w' w.heap.size (fun k_ => some k_ ≠ (s_.1 : Value).ownBlock ∧ some k_ ≠ (s_.2.1 : Value).ownBlock ∧ some k_ ≠ (s_.2.2.1 : Value).ownBlock ∧ some k_ ≠ (s_.2.2.2.1 : Value).ownBlock ∧ some k_ ≠ (s_.2.2.2.2.1 : Value).ownBlock ∧ some k_ ≠ (s_.2.2.2.2.2.1 : Value).ownBlock ∧ some k_ ≠ (.slice Ao43 t293.length co43 : Value).ownBlock ∧ some k_ ≠ (.slice Ao45 t296.length co45 : Value).ownBlock ∧ some k_ ≠ (.slice Ao51 t339.length co51 : Value).ownBlock ∧ some k_ ≠ (.slice Ao61 t342.length co61 : Value).ownBlock ∧ some k_ ≠ (.slice Ao67 t343.length co67 : Value).ownBlock ∧ some k_ ≠ (.slice Ao73 t315.length co73 : Value).ownBlock ∧ some k_ ≠ (.slice Ao80 t318.length co80 : Value).ownBlock) (.slice Ao56 t340.length co56) t340) ∧ (Kd.R (Kd.int .i64) 3 w' w.heap.size (fun k_ => some k_ ≠ (s_.1 : Value).ownBlock ∧ some k_ ≠ (s_.2.1 : Value).ownBlock ∧ some k_ ≠ (s_.2.2.1 : Value).ownBlock ∧ some k_ ≠ (s_.2.2.2.1 : Value).ownBlock ∧ some k_ ≠ (s_.2.2.2.2.1 : Value).ownBlock ∧ some k_ ≠ (s_.2.2.2.2.2.1 : Value).ownBlock ∧ some k_ ≠ (.slice Ao43 t293.length co43 : Value).ownBlock ∧ some k_ ≠ (.slice Ao45 t296.length co45 : Value).ownBlock ∧ some k_ ≠ (.slice Ao51 t339.length co51 : Value).ownBlock ∧ some k_ ≠ (.slice Ao56 t340.length co56 : Value).ownBlock ∧ some k_ ≠ (.slice Ao67 t343.length co67 : Value).ownBlock ∧ some k_ ≠ (.slice Ao73 t315.length co73 : Value).ownBlock ∧ some k_ ≠ (.slice Ao80 t318.length co80 : Value).ownBlock) (.slice Ao61 t342.length co61) t342) ∧ (Kd.R (Kd.int .i64) 3 w' w.heap.size (fun k_ => some k_ ≠ (s_.1 : Value).ownBlock ∧ some k_ ≠ (s_.2.1 : Value).ownBlock ∧ some k_ ≠ (s_.2.2.1 : Value).ownBlock ∧ some k_ ≠ (s_.2.2.2.1 : Value).ownBlock ∧ some k_ ≠ (s_.2.2.2.2.1 : Value).ownBlock ∧ some k_ ≠ (s_.2.2.2.2.2.1 : Value).ownBlock ∧ some k_ ≠ (.slice Ao43 t293.length co43 : Value).ownBlock ∧ some k_ ≠ (.slice Ao45 t296.length co45 : Value).ownBlock ∧ some k_ ≠ (.slice Ao51 t339.length co51 : Value).ownBlock ∧ some k_ ≠ (.slice Ao56 t340.length co56 : Value).ownBlock ∧ some k_ ≠ (.slice Ao61 t342.length co61 : Value).ownBlock ∧ some k_ ≠ (.slice Ao73 t315.length co73 : Value).ownBlock ∧ some k_ ≠ (.slice Ao80 t318.length co80 : Value).ownBlock) (.slice Ao67 t343.length co67) t343) ∧ (Kd.R (Kd.int .i64) 3 w' w.heap.size (fun k_ => some k_ ≠ (s_.1 : Value).ownBlock ∧ some k_ ≠ (s_.2.1 : Value).ownBlock ∧ some k_ ≠ (s_.2.2.1 : Value).ownBlock ∧ some k_ ≠ (s_.2.2.2.1 : Value).ownBlock ∧ some k_ ≠ (s_.2.2.2.2.1 : Value).ownBlock ∧ some k_ ≠ (s_.2.2.2.2.2.1 : Value).ownBlock ∧ some k_ ≠ (.slice Ao43 t293.length co43 : Value).ownBlock ∧ some k_ ≠ (.slice Ao45 t296.length co45 : Value).ownBlock ∧ some k_ ≠ (.slice Ao51 t339.length co51 : Value).ownBlock ∧ some k_ ≠ (.slice Ao56 t340.length co56 : Value).ownBlock ∧ some k_ ≠ (.slice Ao61 t342.length co61 : Value).ownBlock ∧ some k_ ≠ (.slice Ao67 t343.length co67 : Value).ownBlock ∧ some k_ ≠ (.slice Ao80 t318.length co80 : Value).ownBlock) (.slice Ao73 t315.length co73) t346) ∧ (Kd.R (Kd.int .i64) 3 w' w.heap.size (fun k_ => some k_ ≠ (s_.1 : Value).ownBlock ∧ some k_ ≠ (s_.2.1 : Value).ownBlock ∧ some k_ ≠ (s_.2.2.1 : Value).ownBlock ∧ some k_ ≠ (s_.2.2.2.1 : Value).ownBlock ∧ some k_ ≠ (s_.2.2.2.2.1 : Value).ownBlock ∧ some k_ ≠ (s_.2.2.2.2.2.1 : Value).ownBlock ∧ some k_ ≠ (.slice Ao43 t293.length co43 : Value).ownBlock ∧ some k_ ≠ (.slice Ao45 t296.length co45 : Value).ownBlock ∧ some k_ ≠ (.slice Ao51 t339.length co51 : Value).ownBlock ∧ some k_ ≠ (.slice Ao56 t340.length co56 : Value).ownBlock ∧ some k_ ≠ (.slice Ao61 t342.length co61 : Value).ownBlock ∧ some k_ ≠ (.slice Ao67 t343.length co67 : Value).ownBlock ∧ some k_ ≠ (.slice Ao73 t315.length co73 : Value).ownBlock) (.slice Ao80 t318.length co80) t347) ∧ (w'.heap[gb277]? = some (.cells #[.slice A0_0 l0_0.length c0_0, .slice A0_1 l0_1.length c0_1] 24 (0, 0))) ∧ (w'.heap[gb278]? = some (.cells #[.slice A1_0 l1_0.length c1_0, .slice A1_1 l1_1.length c1_1] 24 (0, 0))) ∧ (w'.heap[gb300]? = some (.cells #[.slice Ao43 t293.length co43, .slice Ao45 t296.length co45] 28 (0, 0))) ∧ (w'.heap[gb307]? = some (.cells #[.slice Ao51 t339.length co51, .slice Ao56 t340.length co56] 28 (0, 0))) ∧ (w'.heap[gb314]? = some (.cells #[.slice Ao61 t342.length co61, .slice Ao67 t343.length co67] 28 (0, 0))) ∧ (w'.heap[gb322]? = some (.cells #[.slice Ao73 t315.length co73, .slice Ao80 t318.length co80] 28 (0, 0))) ∧ (w'.heap[s_.2.2.2.2.2.2]? = some (.cells #[.slice none 0 0, .slice none 0 0] 28 (0, 0))) ∧ (w.heap.size ≤ s_.2.2.2.2.2.2) ∧ (w.heap.size ≤ s_.2.2.2.2.2.2) ∧ (gb277 ≠ s_.2.2.2.2.2.2) ∧ (s_.2.2.2.2.2.2 ≠ gb277) ∧ (gb278 ≠ s_.2.2.2.2.2.2) ∧ (s_.2.2.2.2.2.2 ≠ gb278) ∧ (gb300 ≠ s_.2.2.2.2.2.2) ∧ (s_.2.2.2.2.2.2 ≠ gb300) ∧ (gb307 ≠ s_.2.2.2.2.2.2) ∧ (s_.2.2.2.2.2.2 ≠ gb307) ∧ (gb314 ≠ s_.2.2.2.2.2.2) ∧ (s_.2.2.2.2.2.2 ≠ gb314) ∧ (gb322 ≠ s_.2.2.2.2.2.2) ∧ (s_.2.2.2.2.2.2 ≠ gb322) ∧ (Below w.heap.size w w')) ?_ ?_
             rotate_left
             ·
              intro hCont
              refine two_ (i := 1) (j := 8) (Ni := some 96) (Nj := some 15) #[true, true, true, false, false, false, false, false, false, false, false] #[true, false, true, false, false, false, false, false, true, false, false] rfl rfl rfl rfl (two_of HT_.out (by kernel_rfl)) (by decide) (by decide) (fun K hK => ?_) (fun K hK => ?_)
              ·
               skip
               refine goes_ Try.func7 (by kernel_rfl) rfl #[.agg #[.slice A0_0 l0_0.length c0_0, .slice A0_1 l0_1.length c0_1]] (by rfl) rfl rfl lU ?_
               with_reducible refine (laws_toArray.calls kj103 _ _ l0_0 _ _ l0_1 t349 t352 _ ?side1 ?side2 ?side3 ?side4 A148.out).mono ?_
               (case side1 => exact cU (Kd.C_below HR0_0.out HB.out))
               (case side2 => exact HC0_0.out)
               (case side3 => exact cU (Kd.C_below HR0_1.out HB.out))
               (case side4 => exact HC0_1.out)
               rintro e w162 ⟨v350, v353, rfl, ho0, ho1, hb⟩
               refine ⟨_, rfl, ?_⟩
               have HO351 := Aside0.mk (Kd.R_lower (Kd.R_new' (Kd.R_new' (Kd.R_new' (Kd.R_new' (Kd.R_new' (Kd.R_new' (Kd.R_new' (Kd.R_new' ho0 (Kd.R_lt (RU HO_301000.out))) (Kd.R_lt (RU HO_301001.out))) (Kd.R_lt (RU HO_308000.out))) (Kd.R_lt (RU HO_308001.out))) (Kd.R_lt (RU HO_315000.out))) (Kd.R_lt (RU HO_315001.out))) (Kd.R_lt (RU HO_323000.out))) (Kd.R_lt (RU HO_323001.out))) (below_size (bS6 HB.out GE277.out GE278.out GE300.out GE307.out GE314.out GE322.out)))
               have HO354 := Aside0.mk (Kd.R_lower (Kd.R_new' (Kd.R_new' (Kd.R_new' (Kd.R_new' (Kd.R_new' (Kd.R_new' (Kd.R_new' (Kd.R_new' ho1 (Kd.R_lt (RU HO_301000.out))) (Kd.R_lt (RU HO_301001.out))) (Kd.R_lt (RU HO_308000.out))) (Kd.R_lt (RU HO_308001.out))) (Kd.R_lt (RU HO_315000.out))) (Kd.R_lt (RU HO_315001.out))) (Kd.R_lt (RU HO_323000.out))) (Kd.R_lt (RU HO_323001.out))) (below_size (bS6 HB.out GE277.out GE278.out GE300.out GE307.out GE314.out GE322.out)))
               replace HO_301000 := Aside0.mk (Kd.R_mono (Kd.R_told (Kd.R_told (Kd.R_old (RU HO_301000.out) hb) (Kd.R_base ho0)) (Kd.R_base ho1)) (fun _ h_ => h_.1))
               replace HO_301001 := Aside0.mk (Kd.R_mono (Kd.R_told (Kd.R_told (Kd.R_old (RU HO_301001.out) hb) (Kd.R_base ho0)) (Kd.R_base ho1)) (fun _ h_ => h_.1))
               replace HO_308000 := Aside0.mk (Kd.R_mono (Kd.R_told (Kd.R_told (Kd.R_old (RU HO_308000.out) hb) (Kd.R_base ho0)) (Kd.R_base ho1)) (fun _ h_ => h_.1))
               replace HO_308001 := Aside0.mk (Kd.R_mono (Kd.R_told (Kd.R_told (Kd.R_old (RU HO_308001.out) hb) (Kd.R_base ho0)) (Kd.R_base ho1)) (fun _ h_ => h_.1))
               replace HO_315000 := Aside0.mk (Kd.R_mono (Kd.R_told (Kd.R_told (Kd.R_old (RU HO_315000.out) hb) (Kd.R_base ho0)) (Kd.R_base ho1)) (fun _ h_ => h_.1))
               replace HO_315001 := Aside0.mk (Kd.R_mono (Kd.R_told (Kd.R_told (Kd.R_old (RU HO_315001.out) hb) (Kd.R_base ho0)) (Kd.R_base ho1)) (fun _ h_ => h_.1))
               replace HO_323000 := Aside0.mk (Kd.R_mono (Kd.R_told (Kd.R_told (Kd.R_old (RU HO_323000.out) hb) (Kd.R_base ho0)) (Kd.R_base ho1)) (fun _ h_ => h_.1))
               replace HO_323001 := Aside0.mk (Kd.R_mono (Kd.R_told (Kd.R_told (Kd.R_old (RU HO_323001.out) hb) (Kd.R_base ho0)) (Kd.R_base ho1)) (fun _ h_ => h_.1))
               replace BK277 := Aside0.mk (kB BK277.out hb)
               replace BK278 := Aside0.mk (kB BK278.out hb)
               replace BK300 := Aside0.mk (kB BK300.out hb)
               replace BK307 := Aside0.mk (kB BK307.out hb)
               replace BK314 := Aside0.mk (kB BK314.out hb)
               replace BK322 := Aside0.mk (kB BK322.out hb)
               replace HB := Aside0.mk (below_step (bS6 HB.out GE277.out GE278.out GE300.out GE307.out GE314.out GE322.out) hb)
               (try clear hb)
               (try clear hb2)
               (try clear hk)
               (try clear hi)
               (try clear ho0)
               (try clear ho1)
               refine hK.out _ _ ⟨(blk_cell BK277.out 0).trans rfl, (blk_cell BK277.out 1).trans rfl, (blk_cell BK278.out 0).trans rfl, (blk_cell BK278.out 1).trans rfl⟩ (fun hHeld => ?_)
               clear hK K
               refine norm_ (a' := ?_) ?_ ?_
               rotate_left
               ·
                show Act.put _ (some 96) _ = _
                simp only [Act.put, List.setIfInBounds_toArray, List.set_cons_zero, List.set_cons_succ, i64_w, i32_w]
                rfl
               refine two_ (i := 3) (j := 8) (Ni := some 98) (Nj := some 15) #[true, true, true, true, false, false, false, false, false, false, false] #[true, true, true, false, false, false, false, false, true, false, false] rfl rfl rfl rfl (two_of HT_.out (by kernel_rfl)) (by decide) (by decide) (fun K hK => ?_) (fun K hK => ?_)
               ·
                skip
                refine goes_ Try.func7 (by kernel_rfl) rfl #[.agg #[.slice A1_0 l1_0.length c1_0, .slice A1_1 l1_1.length c1_1]] (by rfl) rfl rfl lU ?_
                with_reducible refine (laws_toArray.calls kj103 _ _ l1_0 _ _ l1_1 t355 t358 _ ?side1 ?side2 ?side3 ?side4 A149.out).mono ?_
                (case side1 => exact cU (Kd.C_below HR1_0.out HB.out))
                (case side2 => exact HC1_0.out)
                (case side3 => exact cU (Kd.C_below HR1_1.out HB.out))
                (case side4 => exact HC1_1.out)
                rintro e w163 ⟨v356, v359, rfl, ho0, ho1, hb⟩
                refine ⟨_, rfl, ?_⟩
                have HO357 := Aside0.mk (Kd.R_lower (Kd.R_new' (Kd.R_new' (Kd.R_new' (Kd.R_new' (Kd.R_new' (Kd.R_new' (Kd.R_new' (Kd.R_new' (Kd.R_new' (Kd.R_new' ho0 (Kd.R_lt (RU HO_301000.out))) (Kd.R_lt (RU HO_301001.out))) (Kd.R_lt (RU HO_308000.out))) (Kd.R_lt (RU HO_308001.out))) (Kd.R_lt (RU HO_315000.out))) (Kd.R_lt (RU HO_315001.out))) (Kd.R_lt (RU HO_323000.out))) (Kd.R_lt (RU HO_323001.out))) (Kd.R_lt (RU HO351.out))) (Kd.R_lt (RU HO354.out))) (below_size (bS6 HB.out GE277.out GE278.out GE300.out GE307.out GE314.out GE322.out)))
                have HO360 := Aside0.mk (Kd.R_lower (Kd.R_new' (Kd.R_new' (Kd.R_new' (Kd.R_new' (Kd.R_new' (Kd.R_new' (Kd.R_new' (Kd.R_new' (Kd.R_new' (Kd.R_new' ho1 (Kd.R_lt (RU HO_301000.out))) (Kd.R_lt (RU HO_301001.out))) (Kd.R_lt (RU HO_308000.out))) (Kd.R_lt (RU HO_308001.out))) (Kd.R_lt (RU HO_315000.out))) (Kd.R_lt (RU HO_315001.out))) (Kd.R_lt (RU HO_323000.out))) (Kd.R_lt (RU HO_323001.out))) (Kd.R_lt (RU HO351.out))) (Kd.R_lt (RU HO354.out))) (below_size (bS6 HB.out GE277.out GE278.out GE300.out GE307.out GE314.out GE322.out)))
                replace HO_301000 := Aside0.mk (Kd.R_mono (Kd.R_told (Kd.R_told (Kd.R_old (RU HO_301000.out) hb) (Kd.R_base ho0)) (Kd.R_base ho1)) (fun _ h_ => h_.1))
                replace HO_301001 := Aside0.mk (Kd.R_mono (Kd.R_told (Kd.R_told (Kd.R_old (RU HO_301001.out) hb) (Kd.R_base ho0)) (Kd.R_base ho1)) (fun _ h_ => h_.1))
                replace HO_308000 := Aside0.mk (Kd.R_mono (Kd.R_told (Kd.R_told (Kd.R_old (RU HO_308000.out) hb) (Kd.R_base ho0)) (Kd.R_base ho1)) (fun _ h_ => h_.1))
                replace HO_308001 := Aside0.mk (Kd.R_mono (Kd.R_told (Kd.R_told (Kd.R_old (RU HO_308001.out) hb) (Kd.R_base ho0)) (Kd.R_base ho1)) (fun _ h_ => h_.1))
                replace HO_315000 := Aside0.mk (Kd.R_mono (Kd.R_told (Kd.R_told (Kd.R_old (RU HO_315000.out) hb) (Kd.R_base ho0)) (Kd.R_base ho1)) (fun _ h_ => h_.1))
                replace HO_315001 := Aside0.mk (Kd.R_mono (Kd.R_told (Kd.R_told (Kd.R_old (RU HO_315001.out) hb) (Kd.R_base ho0)) (Kd.R_base ho1)) (fun _ h_ => h_.1))
                replace HO_323000 := Aside0.mk (Kd.R_mono (Kd.R_told (Kd.R_told (Kd.R_old (RU HO_323000.out) hb) (Kd.R_base ho0)) (Kd.R_base ho1)) (fun _ h_ => h_.1))
                replace HO_323001 := Aside0.mk (Kd.R_mono (Kd.R_told (Kd.R_told (Kd.R_old (RU HO_323001.out) hb) (Kd.R_base ho0)) (Kd.R_base ho1)) (fun _ h_ => h_.1))
                replace HO351 := Aside0.mk (Kd.R_mono (Kd.R_told (Kd.R_told (Kd.R_old (RU HO351.out) hb) (Kd.R_base ho0)) (Kd.R_base ho1)) (fun _ h_ => h_.1))
                replace HO354 := Aside0.mk (Kd.R_mono (Kd.R_told (Kd.R_told (Kd.R_old (RU HO354.out) hb) (Kd.R_base ho0)) (Kd.R_base ho1)) (fun _ h_ => h_.1))
                replace BK277 := Aside0.mk (kB BK277.out hb)
                replace BK278 := Aside0.mk (kB BK278.out hb)
                replace BK300 := Aside0.mk (kB BK300.out hb)
                replace BK307 := Aside0.mk (kB BK307.out hb)
                replace BK314 := Aside0.mk (kB BK314.out hb)
                replace BK322 := Aside0.mk (kB BK322.out hb)
                replace HB := Aside0.mk (below_step (bS6 HB.out GE277.out GE278.out GE300.out GE307.out GE314.out GE322.out) hb)
                (try clear hb)
                (try clear hb2)
                (try clear hk)
                (try clear hi)
                (try clear ho0)
                (try clear ho1)
                obtain ⟨Ao164, co164, eo164⟩ := Kd.R_slice HO351.out
                (first | subst eo164 | (injection eo164 with f1_ f2_ f3_; have f4_ := f1_.symm; have f5_ := f3_.symm; clear f1_ f2_ f3_; subst f4_; subst f5_))
                obtain ⟨Ao165, co165, eo165⟩ := Kd.R_slice HO354.out
                (first | subst eo165 | (injection eo165 with f1_ f2_ f3_; have f4_ := f1_.symm; have f5_ := f3_.symm; clear f1_ f2_ f3_; subst f4_; subst f5_))
                obtain ⟨Ao166, co166, eo166⟩ := Kd.R_slice HO357.out
                (first | subst eo166 | (injection eo166 with f1_ f2_ f3_; have f4_ := f1_.symm; have f5_ := f3_.symm; clear f1_ f2_ f3_; subst f4_; subst f5_))
                obtain ⟨Ao167, co167, eo167⟩ := Kd.R_slice HO360.out
                (first | subst eo167 | (injection eo167 with f1_ f2_ f3_; have f4_ := f1_.symm; have f5_ := f3_.symm; clear f1_ f2_ f3_; subst f4_; subst f5_))
                refine hK.out _ _ ⟨(blk_cell BK277.out 0).trans rfl, (blk_cell BK277.out 1).trans rfl, (blk_cell BK278.out 0).trans rfl, (blk_cell BK278.out 1).trans rfl⟩ (fun hHeld => ?_)
                clear hK K
                refine norm_ (a' := ?_) ?_ ?_
                rotate_left
                ·
                 show Act.put _ (some 98) _ = _
                 simp only [Act.put, List.setIfInBounds_toArray, List.set_cons_zero, List.set_cons_succ, i64_w, i32_w]
                 rfl
                refine two_ (i := 4) (j := 8) (Ni := some 99) (Nj := some 15) #[true, true, true, true, true, false, false, false, false, false, false] #[true, true, true, true, false, false, false, false, true, false, false] rfl rfl rfl rfl (two_of HT_.out (by kernel_rfl)) (by decide) (by decide) (fun K hK => ?_) (fun K hK => ?_)
                ·
                 skip
                 refine goes_ Try.func15 (by kernel_rfl) rfl #[.agg #[.slice Ao164 t349.length co164, .slice Ao165 t352.length co165], .agg #[.slice Ao166 t355.length co166, .slice Ao167 t358.length co167]] (by rfl) rfl rfl lU ?_
                 with_reducible refine (impl_Pick.calls kj103 (fun k_ => some k_ = (.slice Ao164 t349.length co164 : Value).ownBlock) _ _ t349 _ _ t352 (fun k_ => some k_ = (.slice Ao166 t355.length co166 : Value).ownBlock) _ _ t355 _ _ t358 t361 t364 t367 _ ?side1 ?side2 ?side3 ?side4 ?side5 ?side6 A150.out).mono ?_
                 (case side1 => exact Kd.R_V (Kd.R_tight rfl (Kd.R_types (Kd.R_types (Kd.R_types (Kd.R_types (Kd.R_types (Kd.R_types (HO351.out) BK277.out (by decide)) BK278.out (by decide)) BK300.out (by decide)) BK307.out (by decide)) BK314.out (by decide)) BK322.out (by decide))))
                 (case side2 => exact cU (Kd.R_reads' HO354.out).2.2)
                 (case side3 => exact (Kd.R_reads' HO354.out).2.1)
                 (case side4 => exact Kd.R_V (Kd.R_tight rfl (Kd.R_types (Kd.R_types (Kd.R_types (Kd.R_types (Kd.R_types (Kd.R_types (HO357.out) BK277.out (by decide)) BK278.out (by decide)) BK300.out (by decide)) BK307.out (by decide)) BK314.out (by decide)) BK322.out (by decide))))
                 (case side5 => exact cU (Kd.R_reads' HO360.out).2.2)
                 (case side6 => exact (Kd.R_reads' HO360.out).2.1)
                 rintro e w168 ⟨v362, v365, rfl, ho0, ho1, hb⟩
                 refine ⟨_, rfl, ?_⟩
                 have HO363 := Aside0.mk (Kd.R_lower (Kd.R_new' (Kd.R_new' (Kd.R_new' (Kd.R_new' (Kd.R_new' (Kd.R_new' (Kd.R_new' (Kd.R_new' (Kd.R_new' (Kd.R_new' (Kd.R_new' (Kd.R_new' (Kd.R_mono (ok' := fun k_ => some k_ ≠ (v365 : Value).ownBlock) ho0 (fun _ hk_ => hk_.2)) (Kd.R_lt (RU HO_301000.out))) (Kd.R_lt (RU HO_301001.out))) (Kd.R_lt (RU HO_308000.out))) (Kd.R_lt (RU HO_308001.out))) (Kd.R_lt (RU HO_315000.out))) (Kd.R_lt (RU HO_315001.out))) (Kd.R_lt (RU HO_323000.out))) (Kd.R_lt (RU HO_323001.out))) (Kd.R_lt (RU HO351.out))) (Kd.R_lt (RU HO354.out))) (Kd.R_lt (RU HO357.out))) (Kd.R_lt (RU HO360.out))) (below_size (bS6 HB.out GE277.out GE278.out GE300.out GE307.out GE314.out GE322.out)))
                 have HO366 := Aside0.mk (Kd.R_lower (Kd.R_new' (Kd.R_new' (Kd.R_new' (Kd.R_new' (Kd.R_new' (Kd.R_new' (Kd.R_new' (Kd.R_new' (Kd.R_new' (Kd.R_new' (Kd.R_new' (Kd.R_new' (Kd.R_mono (ok' := fun k_ => some k_ ≠ (v362 : Value).ownBlock) ho1 (fun _ hk_ => hk_.2)) (Kd.R_lt (RU HO_301000.out))) (Kd.R_lt (RU HO_301001.out))) (Kd.R_lt (RU HO_308000.out))) (Kd.R_lt (RU HO_308001.out))) (Kd.R_lt (RU HO_315000.out))) (Kd.R_lt (RU HO_315001.out))) (Kd.R_lt (RU HO_323000.out))) (Kd.R_lt (RU HO_323001.out))) (Kd.R_lt (RU HO351.out))) (Kd.R_lt (RU HO354.out))) (Kd.R_lt (RU HO357.out))) (Kd.R_lt (RU HO360.out))) (below_size (bS6 HB.out GE277.out GE278.out GE300.out GE307.out GE314.out GE322.out)))
                 replace HO_301000 := Aside0.mk (Kd.R_mono (Kd.R_told (Kd.R_told (Kd.R_old (RU HO_301000.out) hb) (Kd.R_base ho0)) (Kd.R_base ho1)) (fun _ h_ => h_.1))
                 replace HO_301001 := Aside0.mk (Kd.R_mono (Kd.R_told (Kd.R_told (Kd.R_old (RU HO_301001.out) hb) (Kd.R_base ho0)) (Kd.R_base ho1)) (fun _ h_ => h_.1))
                 replace HO_308000 := Aside0.mk (Kd.R_mono (Kd.R_told (Kd.R_told (Kd.R_old (RU HO_308000.out) hb) (Kd.R_base ho0)) (Kd.R_base ho1)) (fun _ h_ => h_.1))
                 replace HO_308001 := Aside0.mk (Kd.R_mono (Kd.R_told (Kd.R_told (Kd.R_old (RU HO_308001.out) hb) (Kd.R_base ho0)) (Kd.R_base ho1)) (fun _ h_ => h_.1))
                 replace HO_315000 := Aside0.mk (Kd.R_mono (Kd.R_told (Kd.R_told (Kd.R_old (RU HO_315000.out) hb) (Kd.R_base ho0)) (Kd.R_base ho1)) (fun _ h_ => h_.1))
                 replace HO_315001 := Aside0.mk (Kd.R_mono (Kd.R_told (Kd.R_told (Kd.R_old (RU HO_315001.out) hb) (Kd.R_base ho0)) (Kd.R_base ho1)) (fun _ h_ => h_.1))
                 replace HO_323000 := Aside0.mk (Kd.R_mono (Kd.R_told (Kd.R_told (Kd.R_old (RU HO_323000.out) hb) (Kd.R_base ho0)) (Kd.R_base ho1)) (fun _ h_ => h_.1))
                 replace HO_323001 := Aside0.mk (Kd.R_mono (Kd.R_told (Kd.R_told (Kd.R_old (RU HO_323001.out) hb) (Kd.R_base ho0)) (Kd.R_base ho1)) (fun _ h_ => h_.1))
                 replace HO351 := Aside0.mk (Kd.R_mono (Kd.R_told (Kd.R_told (Kd.R_old (RU HO351.out) hb) (Kd.R_base ho0)) (Kd.R_base ho1)) (fun _ h_ => h_.1))
                 replace HO354 := Aside0.mk (Kd.R_mono (Kd.R_told (Kd.R_told (Kd.R_old (RU HO354.out) hb) (Kd.R_base ho0)) (Kd.R_base ho1)) (fun _ h_ => h_.1))
                 replace HO357 := Aside0.mk (Kd.R_mono (Kd.R_told (Kd.R_told (Kd.R_old (RU HO357.out) hb) (Kd.R_base ho0)) (Kd.R_base ho1)) (fun _ h_ => h_.1))
                 replace HO360 := Aside0.mk (Kd.R_mono (Kd.R_told (Kd.R_told (Kd.R_old (RU HO360.out) hb) (Kd.R_base ho0)) (Kd.R_base ho1)) (fun _ h_ => h_.1))
                 replace BK277 := Aside0.mk (kB BK277.out hb)
                 replace BK278 := Aside0.mk (kB BK278.out hb)
                 replace BK300 := Aside0.mk (kB BK300.out hb)
                 replace BK307 := Aside0.mk (kB BK307.out hb)
                 replace BK314 := Aside0.mk (kB BK314.out hb)
                 replace BK322 := Aside0.mk (kB BK322.out hb)
                 replace HB := Aside0.mk (below_step (bS6 HB.out GE277.out GE278.out GE300.out GE307.out GE314.out GE322.out) hb)
                 (try clear hb)
                 (try clear hb2)
                 (try clear hk)
                 (try clear hi)
                 (try clear ho0)
                 (try clear ho1)
                 refine hK.out _ _ ⟨(blk_cell BK277.out 0).trans rfl, (blk_cell BK277.out 1).trans rfl, (blk_cell BK278.out 0).trans rfl, (blk_cell BK278.out 1).trans rfl⟩ (fun hHeld => ?_)
                 clear hK K
                 refine norm_ (a' := ?_) ?_ ?_
                 rotate_left
                 ·
                  show Act.put _ (some 99) _ = _
                  simp only [Act.put, List.setIfInBounds_toArray, List.set_cons_zero, List.set_cons_succ, i64_w, i32_w]
                  rfl
                 refine pure_ (i := 5) (N := some 94) (v := ?_) (a' := ?_) #[true, true, true, true, true, true, false, false, false, false, false] rfl rfl (any_of HT_.out (by kernel_rfl)) (fun _ _ _ h => h) (Or.inl ⟨by rfl, ?_⟩) ?_ ?_
                 rotate_left
                 ·
                  intro w'
                  go_simp
                  with_reducible rfl
                 rotate_left
                 ·
                  simp only [Act.put, List.setIfInBounds_toArray, List.set_cons_zero, List.set_cons_succ, i64_w, i32_w]
                  rfl
                 refine pure_ (i := 6) (N := some 100) (v := ?_) (a' := ?_) #[true, true, true, true, true, true, true, false, false, false, false] rfl rfl (any_of HT_.out (by kernel_rfl)) (fun _ _ _ h => h) (Or.inl ⟨by rfl, ?_⟩) ?_ ?_
                 rotate_left
                 ·
                  intro w'
                  go_simp
                  with_reducible rfl
                 rotate_left
                 ·
                  simp only [Act.put, List.setIfInBounds_toArray, List.set_cons_zero, List.set_cons_succ, i64_w, i32_w]
                  rfl
                 refine pure_ (i := 7) (N := some 101) (v := ?_) (a' := ?_) #[true, true, true, true, true, true, true, true, false, false, false] rfl rfl (any_of HT_.out (by kernel_rfl)) (fun _ _ _ h => h) (Or.inl ⟨by rfl, ?_⟩) ?_ ?_
                 rotate_left
                 ·
                  intro w'
                  go_simp
                  with_reducible rfl
                 rotate_left
                 ·
                  simp only [Act.put, List.setIfInBounds_toArray, List.set_cons_zero, List.set_cons_succ, i64_w, i32_w]
                  rfl
                 refine one_ (i := 8) (N := some 15) #[true, true, true, true, true, true, true, true, true, false, false] rfl rfl (one_of HT_.out (by kernel_rfl)) (by decide) (fun K hK => ?_)
                 refine box_step ?hg (N := 15) ?hd (cs := #[.slice none 0 0, .slice none 0 0]) (t := 28) ?hr ?_; (case hd => rfl); (case hg => rfl); (case hr => first | (go_simp; done) | (go_simp; rfl))
                 intro gb368 hg w169 hbox hb
                 replace HO_301000 := Aside0.mk (Kd.R_below (RU HO_301000.out) hb)
                 replace HO_301001 := Aside0.mk (Kd.R_below (RU HO_301001.out) hb)
                 replace HO_308000 := Aside0.mk (Kd.R_below (RU HO_308000.out) hb)
                 replace HO_308001 := Aside0.mk (Kd.R_below (RU HO_308001.out) hb)
                 replace HO_315000 := Aside0.mk (Kd.R_below (RU HO_315000.out) hb)
                 replace HO_315001 := Aside0.mk (Kd.R_below (RU HO_315001.out) hb)
                 replace HO_323000 := Aside0.mk (Kd.R_below (RU HO_323000.out) hb)
                 replace HO_323001 := Aside0.mk (Kd.R_below (RU HO_323001.out) hb)
                 replace HO351 := Aside0.mk (Kd.R_below (RU HO351.out) hb)
                 replace HO354 := Aside0.mk (Kd.R_below (RU HO354.out) hb)
                 replace HO357 := Aside0.mk (Kd.R_below (RU HO357.out) hb)
                 replace HO360 := Aside0.mk (Kd.R_below (RU HO360.out) hb)
                 replace HO363 := Aside0.mk (Kd.R_below (RU HO363.out) hb)
                 replace HO366 := Aside0.mk (Kd.R_below (RU HO366.out) hb)
                 have BK368 := Aside0.mk (hbox)
                 have GW368 := Aside0.mk ((by rw [hg]; exact (below_size (bS6 HB.out GE277.out GE278.out GE300.out GE307.out GE314.out GE322.out)) : w.heap.size ≤ gb368))
                 have GE368 := Aside0.mk ((by rw [hg]; exact (below_size (bS6 HB.out GE277.out GE278.out GE300.out GE307.out GE314.out GE322.out)) : w.heap.size ≤ gb368))
                 replace HB := Aside0.mk (below_step (bS6 HB.out GE277.out GE278.out GE300.out GE307.out GE314.out GE322.out) hb)
                 have NB277_368 := Aside0.mk (kN BK277.out hg)
                 have NB368_277 := Aside0.mk (kM BK277.out hg)
                 replace BK277 := Aside0.mk (kB BK277.out hb)
                 have NB278_368 := Aside0.mk (kN BK278.out hg)
                 have NB368_278 := Aside0.mk (kM BK278.out hg)
                 replace BK278 := Aside0.mk (kB BK278.out hb)
                 have NB300_368 := Aside0.mk (kN BK300.out hg)
                 have NB368_300 := Aside0.mk (kM BK300.out hg)
                 replace BK300 := Aside0.mk (kB BK300.out hb)
                 have NB307_368 := Aside0.mk (kN BK307.out hg)
                 have NB368_307 := Aside0.mk (kM BK307.out hg)
                 replace BK307 := Aside0.mk (kB BK307.out hb)
                 have NB314_368 := Aside0.mk (kN BK314.out hg)
                 have NB368_314 := Aside0.mk (kM BK314.out hg)
                 replace BK314 := Aside0.mk (kB BK314.out hb)
                 have NB322_368 := Aside0.mk (kN BK322.out hg)
                 have NB368_322 := Aside0.mk (kM BK322.out hg)
                 replace BK322 := Aside0.mk (kB BK322.out hb)
                 clear hb hbox hg
                 refine hK.out _ _ ⟨(blk_cell BK277.out 0).trans rfl, (blk_cell BK277.out 1).trans rfl, (blk_cell BK278.out 0).trans rfl, (blk_cell BK278.out 1).trans rfl⟩ (fun hHeld => ?_)
                 clear hK K
                 refine norm_ (a' := ?_) ?_ ?_
                 rotate_left
                 ·
                  show Act.put _ (some 15) _ = _
                  simp only [Act.put, List.setIfInBounds_toArray, List.set_cons_zero, List.set_cons_succ, i64_w, i32_w]
                  rfl
                 exact norm_ (by simp only [putAll, Act.put, List.setIfInBounds_toArray, List.set_cons_zero, List.set_cons_succ]) (hCont (.slice Ao164 t349.length co164, .slice Ao165 t352.length co165, .slice Ao166 t355.length co166, .slice Ao167 t358.length co167, v362, v365, gb368) _ ⟨hHeld, (by refine RU ?_; exact Kd.R_mono HO351.out (fun _ hk => ⟨hk.1.1.1.1.1.1.1.1.1.1.1.1, ⟨hk.1.1.1.2, ⟨hk.1.1.2, ⟨hk.1.2, ⟨hk.2, ⟨hk.1.1.1.1.1.1.1.1.1.1.1.2, ⟨hk.1.1.1.1.1.1.1.1.1.1.2, ⟨hk.1.1.1.1.1.1.1.1.1.2, ⟨hk.1.1.1.1.1.1.1.1.2, ⟨hk.1.1.1.1.1.1.1.2, ⟨hk.1.1.1.1.1.1.2, ⟨hk.1.1.1.1.1.2, hk.1.1.1.1.2⟩⟩⟩⟩⟩⟩⟩⟩⟩⟩⟩⟩)), (by refine RU ?_; exact Kd.R_mono HO354.out (fun _ hk => ⟨hk.1.1.1.1.1.1.1.1.1.1.1.1, ⟨hk.1.1.1.2, ⟨hk.1.1.2, ⟨hk.1.2, ⟨hk.2, ⟨hk.1.1.1.1.1.1.1.1.1.1.1.2, ⟨hk.1.1.1.1.1.1.1.1.1.1.2, ⟨hk.1.1.1.1.1.1.1.1.1.2, ⟨hk.1.1.1.1.1.1.1.1.2, ⟨hk.1.1.1.1.1.1.1.2, ⟨hk.1.1.1.1.1.1.2, ⟨hk.1.1.1.1.1.2, hk.1.1.1.1.2⟩⟩⟩⟩⟩⟩⟩⟩⟩⟩⟩⟩)), (by refine RU ?_; exact Kd.R_mono HO357.out (fun _ hk => ⟨hk.1.1.1.2, ⟨hk.1.1.2, ⟨hk.1.1.1.1.1.1.1.1.1.1.1.1, ⟨hk.1.2, ⟨hk.2, ⟨hk.1.1.1.1.1.1.1.1.1.1.1.2, ⟨hk.1.1.1.1.1.1.1.1.1.1.2, ⟨hk.1.1.1.1.1.1.1.1.1.2, ⟨hk.1.1.1.1.1.1.1.1.2, ⟨hk.1.1.1.1.1.1.1.2, ⟨hk.1.1.1.1.1.1.2, ⟨hk.1.1.1.1.1.2, hk.1.1.1.1.2⟩⟩⟩⟩⟩⟩⟩⟩⟩⟩⟩⟩)), (by refine RU ?_; exact Kd.R_mono HO360.out (fun _ hk => ⟨hk.1.1.1.2, ⟨hk.1.1.2, ⟨hk.1.1.1.1.1.1.1.1.1.1.1.1, ⟨hk.1.2, ⟨hk.2, ⟨hk.1.1.1.1.1.1.1.1.1.1.1.2, ⟨hk.1.1.1.1.1.1.1.1.1.1.2, ⟨hk.1.1.1.1.1.1.1.1.1.2, ⟨hk.1.1.1.1.1.1.1.1.2, ⟨hk.1.1.1.1.1.1.1.2, ⟨hk.1.1.1.1.1.1.2, ⟨hk.1.1.1.1.1.2, hk.1.1.1.1.2⟩⟩⟩⟩⟩⟩⟩⟩⟩⟩⟩⟩)), (by refine RU ?_; exact Kd.R_mono HO363.out (fun _ hk => ⟨hk.1.1.1.2, ⟨hk.1.1.2, ⟨hk.1.2, ⟨hk.2, ⟨hk.1.1.1.1.1.1.1.1.1.1.1.1, ⟨hk.1.1.1.1.1.1.1.1.1.1.1.2, ⟨hk.1.1.1.1.1.1.1.1.1.1.2, ⟨hk.1.1.1.1.1.1.1.1.1.2, ⟨hk.1.1.1.1.1.1.1.1.2, ⟨hk.1.1.1.1.1.1.1.2, ⟨hk.1.1.1.1.1.1.2, ⟨hk.1.1.1.1.1.2, hk.1.1.1.1.2⟩⟩⟩⟩⟩⟩⟩⟩⟩⟩⟩⟩)), (by refine RU ?_; exact Kd.R_mono HO366.out (fun _ hk => ⟨hk.1.1.1.2, ⟨hk.1.1.2, ⟨hk.1.2, ⟨hk.2, ⟨hk.1.1.1.1.1.1.1.1.1.1.1.1, ⟨hk.1.1.1.1.1.1.1.1.1.1.1.2, ⟨hk.1.1.1.1.1.1.1.1.1.1.2, ⟨hk.1.1.1.1.1.1.1.1.1.2, ⟨hk.1.1.1.1.1.1.1.1.2, ⟨hk.1.1.1.1.1.1.1.2, ⟨hk.1.1.1.1.1.1.2, ⟨hk.1.1.1.1.1.2, hk.1.1.1.1.2⟩⟩⟩⟩⟩⟩⟩⟩⟩⟩⟩⟩)), (by refine RU ?_; exact Kd.R_mono HO_301000.out (fun _ hk => ⟨hk.1.1.1.1.1.2, ⟨hk.1.1.1.1.2, ⟨hk.1.1.1.2, ⟨hk.1.1.2, ⟨hk.1.2, ⟨hk.2, ⟨hk.1.1.1.1.1.1.1, ⟨hk.1.1.1.1.1.1.2.1, ⟨hk.1.1.1.1.1.1.2.2.1, ⟨hk.1.1.1.1.1.1.2.2.2.1, ⟨hk.1.1.1.1.1.1.2.2.2.2.1, ⟨hk.1.1.1.1.1.1.2.2.2.2.2.1, hk.1.1.1.1.1.1.2.2.2.2.2.2⟩⟩⟩⟩⟩⟩⟩⟩⟩⟩⟩⟩)), (by refine RU ?_; exact Kd.R_mono HO_301001.out (fun _ hk => ⟨hk.1.1.1.1.1.2, ⟨hk.1.1.1.1.2, ⟨hk.1.1.1.2, ⟨hk.1.1.2, ⟨hk.1.2, ⟨hk.2, ⟨hk.1.1.1.1.1.1.1, ⟨hk.1.1.1.1.1.1.2.1, ⟨hk.1.1.1.1.1.1.2.2.1, ⟨hk.1.1.1.1.1.1.2.2.2.1, ⟨hk.1.1.1.1.1.1.2.2.2.2.1, ⟨hk.1.1.1.1.1.1.2.2.2.2.2.1, hk.1.1.1.1.1.1.2.2.2.2.2.2⟩⟩⟩⟩⟩⟩⟩⟩⟩⟩⟩⟩)), (by refine RU ?_; exact Kd.R_mono HO_308000.out (fun _ hk => ⟨hk.1.1.1.1.1.2, ⟨hk.1.1.1.1.2, ⟨hk.1.1.1.2, ⟨hk.1.1.2, ⟨hk.1.2, ⟨hk.2, ⟨hk.1.1.1.1.1.1.1, ⟨hk.1.1.1.1.1.1.2.1, ⟨hk.1.1.1.1.1.1.2.2.1, ⟨hk.1.1.1.1.1.1.2.2.2.1, ⟨hk.1.1.1.1.1.1.2.2.2.2.1, ⟨hk.1.1.1.1.1.1.2.2.2.2.2.1, hk.1.1.1.1.1.1.2.2.2.2.2.2⟩⟩⟩⟩⟩⟩⟩⟩⟩⟩⟩⟩)), (by refine RU ?_; exact Kd.R_mono HO_308001.out (fun _ hk => ⟨hk.1.1.1.1.1.2, ⟨hk.1.1.1.1.2, ⟨hk.1.1.1.2, ⟨hk.1.1.2, ⟨hk.1.2, ⟨hk.2, ⟨hk.1.1.1.1.1.1.1, ⟨hk.1.1.1.1.1.1.2.1, ⟨hk.1.1.1.1.1.1.2.2.1, ⟨hk.1.1.1.1.1.1.2.2.2.1, ⟨hk.1.1.1.1.1.1.2.2.2.2.1, ⟨hk.1.1.1.1.1.1.2.2.2.2.2.1, hk.1.1.1.1.1.1.2.2.2.2.2.2⟩⟩⟩⟩⟩⟩⟩⟩⟩⟩⟩⟩)), (by refine RU ?_; exact Kd.R_mono HO_315000.out (fun _ hk => ⟨hk.1.1.1.1.1.2, ⟨hk.1.1.1.1.2, ⟨hk.1.1.1.2, ⟨hk.1.1.2, ⟨hk.1.2, ⟨hk.2, ⟨hk.1.1.1.1.1.1.1, ⟨hk.1.1.1.1.1.1.2.1, ⟨hk.1.1.1.1.1.1.2.2.1, ⟨hk.1.1.1.1.1.1.2.2.2.1, ⟨hk.1.1.1.1.1.1.2.2.2.2.1, ⟨hk.1.1.1.1.1.1.2.2.2.2.2.1, hk.1.1.1.1.1.1.2.2.2.2.2.2⟩⟩⟩⟩⟩⟩⟩⟩⟩⟩⟩⟩)), (by refine RU ?_; exact Kd.R_mono HO_315001.out (fun _ hk => ⟨hk.1.1.1.1.1.2, ⟨hk.1.1.1.1.2, ⟨hk.1.1.1.2, ⟨hk.1.1.2, ⟨hk.1.2, ⟨hk.2, ⟨hk.1.1.1.1.1.1.1, ⟨hk.1.1.1.1.1.1.2.1, ⟨hk.1.1.1.1.1.1.2.2.1, ⟨hk.1.1.1.1.1.1.2.2.2.1, ⟨hk.1.1.1.1.1.1.2.2.2.2.1, ⟨hk.1.1.1.1.1.1.2.2.2.2.2.1, hk.1.1.1.1.1.1.2.2.2.2.2.2⟩⟩⟩⟩⟩⟩⟩⟩⟩⟩⟩⟩)), (by refine RU ?_; exact Kd.R_mono HO_323000.out (fun _ hk => ⟨hk.1.1.1.1.1.2, ⟨hk.1.1.1.1.2, ⟨hk.1.1.1.2, ⟨hk.1.1.2, ⟨hk.1.2, ⟨hk.2, ⟨hk.1.1.1.1.1.1.1, ⟨hk.1.1.1.1.1.1.2.1, ⟨hk.1.1.1.1.1.1.2.2.1, ⟨hk.1.1.1.1.1.1.2.2.2.1, ⟨hk.1.1.1.1.1.1.2.2.2.2.1, ⟨hk.1.1.1.1.1.1.2.2.2.2.2.1, hk.1.1.1.1.1.1.2.2.2.2.2.2⟩⟩⟩⟩⟩⟩⟩⟩⟩⟩⟩⟩)), (by refine RU ?_; exact Kd.R_mono HO_323001.out (fun _ hk => ⟨hk.1.1.1.1.1.2, ⟨hk.1.1.1.1.2, ⟨hk.1.1.1.2, ⟨hk.1.1.2, ⟨hk.1.2, ⟨hk.2, ⟨hk.1.1.1.1.1.1.1, ⟨hk.1.1.1.1.1.1.2.1, ⟨hk.1.1.1.1.1.1.2.2.1, ⟨hk.1.1.1.1.1.1.2.2.2.1, ⟨hk.1.1.1.1.1.1.2.2.2.2.1, ⟨hk.1.1.1.1.1.1.2.2.2.2.2.1, hk.1.1.1.1.1.1.2.2.2.2.2.2⟩⟩⟩⟩⟩⟩⟩⟩⟩⟩⟩⟩)), (kU BK277.out), (kU BK278.out), (kU BK300.out), (kU BK307.out), (kU BK314.out), (kU BK322.out), (kU BK368.out), GW368.out, GE368.out, NB277_368.out, NB368_277.out, NB278_368.out, NB368_278.out, NB300_368.out, NB368_300.out, NB307_368.out, NB368_307.out, NB314_368.out, NB368_314.out, NB322_368.out, NB368_322.out, (bS7 HB.out GE277.out GE278.out GE300.out GE307.out GE314.out GE322.out GE368.out)⟩)
                ·
                 skip
                 refine box_step ?hg (N := 15) ?hd (cs := #[.slice none 0 0, .slice none 0 0]) (t := 28) ?hr ?_; (case hd => rfl); (case hg => rfl); (case hr => first | (go_simp; done) | (go_simp; rfl))
                 intro gb368 hg w164 hbox hb
                 replace HO_301000 := Aside0.mk (Kd.R_below (RU HO_301000.out) hb)
                 replace HO_301001 := Aside0.mk (Kd.R_below (RU HO_301001.out) hb)
                 replace HO_308000 := Aside0.mk (Kd.R_below (RU HO_308000.out) hb)
                 replace HO_308001 := Aside0.mk (Kd.R_below (RU HO_308001.out) hb)
                 replace HO_315000 := Aside0.mk (Kd.R_below (RU HO_315000.out) hb)
                 replace HO_315001 := Aside0.mk (Kd.R_below (RU HO_315001.out) hb)
                 replace HO_323000 := Aside0.mk (Kd.R_below (RU HO_323000.out) hb)
                 replace HO_323001 := Aside0.mk (Kd.R_below (RU HO_323001.out) hb)
                 replace HO351 := Aside0.mk (Kd.R_below (RU HO351.out) hb)
                 replace HO354 := Aside0.mk (Kd.R_below (RU HO354.out) hb)
                 replace HO357 := Aside0.mk (Kd.R_below (RU HO357.out) hb)
                 replace HO360 := Aside0.mk (Kd.R_below (RU HO360.out) hb)
                 have BK368 := Aside0.mk (hbox)
                 have GW368 := Aside0.mk ((by rw [hg]; exact (below_size (bS6 HB.out GE277.out GE278.out GE300.out GE307.out GE314.out GE322.out)) : w.heap.size ≤ gb368))
                 have GE368 := Aside0.mk ((by rw [hg]; exact (below_size (bS6 HB.out GE277.out GE278.out GE300.out GE307.out GE314.out GE322.out)) : w.heap.size ≤ gb368))
                 replace HB := Aside0.mk (below_step (bS6 HB.out GE277.out GE278.out GE300.out GE307.out GE314.out GE322.out) hb)
                 have NB277_368 := Aside0.mk (kN BK277.out hg)
                 have NB368_277 := Aside0.mk (kM BK277.out hg)
                 replace BK277 := Aside0.mk (kB BK277.out hb)
                 have NB278_368 := Aside0.mk (kN BK278.out hg)
                 have NB368_278 := Aside0.mk (kM BK278.out hg)
                 replace BK278 := Aside0.mk (kB BK278.out hb)
                 have NB300_368 := Aside0.mk (kN BK300.out hg)
                 have NB368_300 := Aside0.mk (kM BK300.out hg)
                 replace BK300 := Aside0.mk (kB BK300.out hb)
                 have NB307_368 := Aside0.mk (kN BK307.out hg)
                 have NB368_307 := Aside0.mk (kM BK307.out hg)
                 replace BK307 := Aside0.mk (kB BK307.out hb)
                 have NB314_368 := Aside0.mk (kN BK314.out hg)
                 have NB368_314 := Aside0.mk (kM BK314.out hg)
                 replace BK314 := Aside0.mk (kB BK314.out hb)
                 have NB322_368 := Aside0.mk (kN BK322.out hg)
                 have NB368_322 := Aside0.mk (kM BK322.out hg)
                 replace BK322 := Aside0.mk (kB BK322.out hb)
                 clear hb hbox hg
                 obtain ⟨Ao165, co165, eo165⟩ := Kd.R_slice HO351.out
                 (first | subst eo165 | (injection eo165 with f1_ f2_ f3_; have f4_ := f1_.symm; have f5_ := f3_.symm; clear f1_ f2_ f3_; subst f4_; subst f5_))
                 obtain ⟨Ao166, co166, eo166⟩ := Kd.R_slice HO354.out
                 (first | subst eo166 | (injection eo166 with f1_ f2_ f3_; have f4_ := f1_.symm; have f5_ := f3_.symm; clear f1_ f2_ f3_; subst f4_; subst f5_))
                 obtain ⟨Ao167, co167, eo167⟩ := Kd.R_slice HO357.out
                 (first | subst eo167 | (injection eo167 with f1_ f2_ f3_; have f4_ := f1_.symm; have f5_ := f3_.symm; clear f1_ f2_ f3_; subst f4_; subst f5_))
                 obtain ⟨Ao168, co168, eo168⟩ := Kd.R_slice HO360.out
                 (first | subst eo168 | (injection eo168 with f1_ f2_ f3_; have f4_ := f1_.symm; have f5_ := f3_.symm; clear f1_ f2_ f3_; subst f4_; subst f5_))
                 refine hK.out _ _ ⟨(blk_cell BK277.out 0).trans rfl, (blk_cell BK277.out 1).trans rfl, (blk_cell BK278.out 0).trans rfl, (blk_cell BK278.out 1).trans rfl⟩ (fun hHeld => ?_)
                 clear hK K
                 refine norm_ (a' := ?_) ?_ ?_
                 rotate_left
                 ·
                  show Act.put _ (some 15) _ = _
                  simp only [Act.put, List.setIfInBounds_toArray, List.set_cons_zero, List.set_cons_succ, i64_w, i32_w]
                  rfl
                 refine one_ (i := 4) (N := some 99) #[true, true, true, true, true, false, false, false, true, false, false] rfl rfl (one_of HT_.out (by kernel_rfl)) (by decide) (fun K hK => ?_)
                 refine goes_ Try.func15 (by kernel_rfl) rfl #[.agg #[.slice Ao165 t349.length co165, .slice Ao166 t352.length co166], .agg #[.slice Ao167 t355.length co167, .slice Ao168 t358.length co168]] (by rfl) rfl rfl lU ?_
                 with_reducible refine (impl_Pick.calls kj103 (fun k_ => some k_ = (.slice Ao165 t349.length co165 : Value).ownBlock) _ _ t349 _ _ t352 (fun k_ => some k_ = (.slice Ao167 t355.length co167 : Value).ownBlock) _ _ t355 _ _ t358 t361 t364 t367 _ ?side1 ?side2 ?side3 ?side4 ?side5 ?side6 A150.out).mono ?_
                 (case side1 => exact Kd.R_V (Kd.R_tight rfl (Kd.R_types (Kd.R_types (Kd.R_types (Kd.R_types (Kd.R_types (Kd.R_types (Kd.R_types (HO351.out) BK277.out (by decide)) BK278.out (by decide)) BK300.out (by decide)) BK307.out (by decide)) BK314.out (by decide)) BK322.out (by decide)) BK368.out (by decide))))
                 (case side2 => exact cU (Kd.R_reads' HO354.out).2.2)
                 (case side3 => exact (Kd.R_reads' HO354.out).2.1)
                 (case side4 => exact Kd.R_V (Kd.R_tight rfl (Kd.R_types (Kd.R_types (Kd.R_types (Kd.R_types (Kd.R_types (Kd.R_types (Kd.R_types (HO357.out) BK277.out (by decide)) BK278.out (by decide)) BK300.out (by decide)) BK307.out (by decide)) BK314.out (by decide)) BK322.out (by decide)) BK368.out (by decide))))
                 (case side5 => exact cU (Kd.R_reads' HO360.out).2.2)
                 (case side6 => exact (Kd.R_reads' HO360.out).2.1)
                 rintro e w169 ⟨v362, v365, rfl, ho0, ho1, hb⟩
                 refine ⟨_, rfl, ?_⟩
                 have HO363 := Aside0.mk (Kd.R_lower (Kd.R_new' (Kd.R_new' (Kd.R_new' (Kd.R_new' (Kd.R_new' (Kd.R_new' (Kd.R_new' (Kd.R_new' (Kd.R_new' (Kd.R_new' (Kd.R_new' (Kd.R_new' (Kd.R_mono (ok' := fun k_ => some k_ ≠ (v365 : Value).ownBlock) ho0 (fun _ hk_ => hk_.2)) (Kd.R_lt (RU HO_301000.out))) (Kd.R_lt (RU HO_301001.out))) (Kd.R_lt (RU HO_308000.out))) (Kd.R_lt (RU HO_308001.out))) (Kd.R_lt (RU HO_315000.out))) (Kd.R_lt (RU HO_315001.out))) (Kd.R_lt (RU HO_323000.out))) (Kd.R_lt (RU HO_323001.out))) (Kd.R_lt (RU HO351.out))) (Kd.R_lt (RU HO354.out))) (Kd.R_lt (RU HO357.out))) (Kd.R_lt (RU HO360.out))) (below_size (bS7 HB.out GE277.out GE278.out GE300.out GE307.out GE314.out GE322.out GE368.out)))
                 have HO366 := Aside0.mk (Kd.R_lower (Kd.R_new' (Kd.R_new' (Kd.R_new' (Kd.R_new' (Kd.R_new' (Kd.R_new' (Kd.R_new' (Kd.R_new' (Kd.R_new' (Kd.R_new' (Kd.R_new' (Kd.R_new' (Kd.R_mono (ok' := fun k_ => some k_ ≠ (v362 : Value).ownBlock) ho1 (fun _ hk_ => hk_.2)) (Kd.R_lt (RU HO_301000.out))) (Kd.R_lt (RU HO_301001.out))) (Kd.R_lt (RU HO_308000.out))) (Kd.R_lt (RU HO_308001.out))) (Kd.R_lt (RU HO_315000.out))) (Kd.R_lt (RU HO_315001.out))) (Kd.R_lt (RU HO_323000.out))) (Kd.R_lt (RU HO_323001.out))) (Kd.R_lt (RU HO351.out))) (Kd.R_lt (RU HO354.out))) (Kd.R_lt (RU HO357.out))) (Kd.R_lt (RU HO360.out))) (below_size (bS7 HB.out GE277.out GE278.out GE300.out GE307.out GE314.out GE322.out GE368.out)))
                 replace HO_301000 := Aside0.mk (Kd.R_mono (Kd.R_told (Kd.R_told (Kd.R_old (RU HO_301000.out) hb) (Kd.R_base ho0)) (Kd.R_base ho1)) (fun _ h_ => h_.1))
                 replace HO_301001 := Aside0.mk (Kd.R_mono (Kd.R_told (Kd.R_told (Kd.R_old (RU HO_301001.out) hb) (Kd.R_base ho0)) (Kd.R_base ho1)) (fun _ h_ => h_.1))
                 replace HO_308000 := Aside0.mk (Kd.R_mono (Kd.R_told (Kd.R_told (Kd.R_old (RU HO_308000.out) hb) (Kd.R_base ho0)) (Kd.R_base ho1)) (fun _ h_ => h_.1))
                 replace HO_308001 := Aside0.mk (Kd.R_mono (Kd.R_told (Kd.R_told (Kd.R_old (RU HO_308001.out) hb) (Kd.R_base ho0)) (Kd.R_base ho1)) (fun _ h_ => h_.1))
                 replace HO_315000 := Aside0.mk (Kd.R_mono (Kd.R_told (Kd.R_told (Kd.R_old (RU HO_315000.out) hb) (Kd.R_base ho0)) (Kd.R_base ho1)) (fun _ h_ => h_.1))
                 replace HO_315001 := Aside0.mk (Kd.R_mono (Kd.R_told (Kd.R_told (Kd.R_old (RU HO_315001.out) hb) (Kd.R_base ho0)) (Kd.R_base ho1)) (fun _ h_ => h_.1))
                 replace HO_323000 := Aside0.mk (Kd.R_mono (Kd.R_told (Kd.R_told (Kd.R_old (RU HO_323000.out) hb) (Kd.R_base ho0)) (Kd.R_base ho1)) (fun _ h_ => h_.1))
                 replace HO_323001 := Aside0.mk (Kd.R_mono (Kd.R_told (Kd.R_told (Kd.R_old (RU HO_323001.out) hb) (Kd.R_base ho0)) (Kd.R_base ho1)) (fun _ h_ => h_.1))
                 replace HO351 := Aside0.mk (Kd.R_mono (Kd.R_told (Kd.R_told (Kd.R_old (RU HO351.out) hb) (Kd.R_base ho0)) (Kd.R_base ho1)) (fun _ h_ => h_.1))
                 replace HO354 := Aside0.mk (Kd.R_mono (Kd.R_told (Kd.R_told (Kd.R_old (RU HO354.out) hb) (Kd.R_base ho0)) (Kd.R_base ho1)) (fun _ h_ => h_.1))
                 replace HO357 := Aside0.mk (Kd.R_mono (Kd.R_told (Kd.R_told (Kd.R_old (RU HO357.out) hb) (Kd.R_base ho0)) (Kd.R_base ho1)) (fun _ h_ => h_.1))
                 replace HO360 := Aside0.mk (Kd.R_mono (Kd.R_told (Kd.R_told (Kd.R_old (RU HO360.out) hb) (Kd.R_base ho0)) (Kd.R_base ho1)) (fun _ h_ => h_.1))
                 replace BK277 := Aside0.mk (kB BK277.out hb)
                 replace BK278 := Aside0.mk (kB BK278.out hb)
                 replace BK300 := Aside0.mk (kB BK300.out hb)
                 replace BK307 := Aside0.mk (kB BK307.out hb)
                 replace BK314 := Aside0.mk (kB BK314.out hb)
                 replace BK322 := Aside0.mk (kB BK322.out hb)
                 replace BK368 := Aside0.mk (kB BK368.out hb)
                 replace HB := Aside0.mk (below_step (bS7 HB.out GE277.out GE278.out GE300.out GE307.out GE314.out GE322.out GE368.out) hb)
                 (try clear hb)
                 (try clear hb2)
                 (try clear hk)
                 (try clear hi)
                 (try clear ho0)
                 (try clear ho1)
                 refine hK.out _ _ ⟨(blk_cell BK277.out 0).trans rfl, (blk_cell BK277.out 1).trans rfl, (blk_cell BK278.out 0).trans rfl, (blk_cell BK278.out 1).trans rfl⟩ (fun hHeld => ?_)
                 clear hK K
                 refine norm_ (a' := ?_) ?_ ?_
                 rotate_left
                 ·
                  show Act.put _ (some 99) _ = _
                  simp only [Act.put, List.setIfInBounds_toArray, List.set_cons_zero, List.set_cons_succ, i64_w, i32_w]
                  rfl
                 refine pure_ (i := 5) (N := some 94) (v := ?_) (a' := ?_) #[true, true, true, true, true, true, false, false, true, false, false] rfl rfl (any_of HT_.out (by kernel_rfl)) (fun _ _ _ h => h) (Or.inl ⟨by rfl, ?_⟩) ?_ ?_
                 rotate_left
                 ·
                  intro w'
                  go_simp
                  with_reducible rfl
                 rotate_left
                 ·
                  simp only [Act.put, List.setIfInBounds_toArray, List.set_cons_zero, List.set_cons_succ, i64_w, i32_w]
                  rfl
                 refine pure_ (i := 6) (N := some 100) (v := ?_) (a' := ?_) #[true, true, true, true, true, true, true, false, true, false, false] rfl rfl (any_of HT_.out (by kernel_rfl)) (fun _ _ _ h => h) (Or.inl ⟨by rfl, ?_⟩) ?_ ?_
                 rotate_left
                 ·
                  intro w'
                  go_simp
                  with_reducible rfl
                 rotate_left
                 ·
                  simp only [Act.put, List.setIfInBounds_toArray, List.set_cons_zero, List.set_cons_succ, i64_w, i32_w]
                  rfl
                 refine pure_ (i := 7) (N := some 101) (v := ?_) (a' := ?_) #[true, true, true, true, true, true, true, true, true, false, false] rfl rfl (any_of HT_.out (by kernel_rfl)) (fun _ _ _ h => h) (Or.inl ⟨by rfl, ?_⟩) ?_ ?_
                 rotate_left
                 ·
                  intro w'
                  go_simp
                  with_reducible rfl
                 rotate_left
                 ·
                  simp only [Act.put, List.setIfInBounds_toArray, List.set_cons_zero, List.set_cons_succ, i64_w, i32_w]
                  rfl
                 exact norm_ (by simp only [putAll, Act.put, List.setIfInBounds_toArray, List.set_cons_zero, List.set_cons_succ]) (hCont (.slice Ao165 t349.length co165, .slice Ao166 t352.length co166, .slice Ao167 t355.length co167, .slice Ao168 t358.length co168, v362, v365, gb368) _ ⟨hHeld, (by refine RU ?_; exact Kd.R_mono HO351.out (fun _ hk => ⟨hk.1.1.1.1.1.1.1.1.1.1.1.1, ⟨hk.1.1.1.2, ⟨hk.1.1.2, ⟨hk.1.2, ⟨hk.2, ⟨hk.1.1.1.1.1.1.1.1.1.1.1.2, ⟨hk.1.1.1.1.1.1.1.1.1.1.2, ⟨hk.1.1.1.1.1.1.1.1.1.2, ⟨hk.1.1.1.1.1.1.1.1.2, ⟨hk.1.1.1.1.1.1.1.2, ⟨hk.1.1.1.1.1.1.2, ⟨hk.1.1.1.1.1.2, hk.1.1.1.1.2⟩⟩⟩⟩⟩⟩⟩⟩⟩⟩⟩⟩)), (by refine RU ?_; exact Kd.R_mono HO354.out (fun _ hk => ⟨hk.1.1.1.1.1.1.1.1.1.1.1.1, ⟨hk.1.1.1.2, ⟨hk.1.1.2, ⟨hk.1.2, ⟨hk.2, ⟨hk.1.1.1.1.1.1.1.1.1.1.1.2, ⟨hk.1.1.1.1.1.1.1.1.1.1.2, ⟨hk.1.1.1.1.1.1.1.1.1.2, ⟨hk.1.1.1.1.1.1.1.1.2, ⟨hk.1.1.1.1.1.1.1.2, ⟨hk.1.1.1.1.1.1.2, ⟨hk.1.1.1.1.1.2, hk.1.1.1.1.2⟩⟩⟩⟩⟩⟩⟩⟩⟩⟩⟩⟩)), (by refine RU ?_; exact Kd.R_mono HO357.out (fun _ hk => ⟨hk.1.1.1.2, ⟨hk.1.1.2, ⟨hk.1.1.1.1.1.1.1.1.1.1.1.1, ⟨hk.1.2, ⟨hk.2, ⟨hk.1.1.1.1.1.1.1.1.1.1.1.2, ⟨hk.1.1.1.1.1.1.1.1.1.1.2, ⟨hk.1.1.1.1.1.1.1.1.1.2, ⟨hk.1.1.1.1.1.1.1.1.2, ⟨hk.1.1.1.1.1.1.1.2, ⟨hk.1.1.1.1.1.1.2, ⟨hk.1.1.1.1.1.2, hk.1.1.1.1.2⟩⟩⟩⟩⟩⟩⟩⟩⟩⟩⟩⟩)), (by refine RU ?_; exact Kd.R_mono HO360.out (fun _ hk => ⟨hk.1.1.1.2, ⟨hk.1.1.2, ⟨hk.1.1.1.1.1.1.1.1.1.1.1.1, ⟨hk.1.2, ⟨hk.2, ⟨hk.1.1.1.1.1.1.1.1.1.1.1.2, ⟨hk.1.1.1.1.1.1.1.1.1.1.2, ⟨hk.1.1.1.1.1.1.1.1.1.2, ⟨hk.1.1.1.1.1.1.1.1.2, ⟨hk.1.1.1.1.1.1.1.2, ⟨hk.1.1.1.1.1.1.2, ⟨hk.1.1.1.1.1.2, hk.1.1.1.1.2⟩⟩⟩⟩⟩⟩⟩⟩⟩⟩⟩⟩)), (by refine RU ?_; exact Kd.R_mono HO363.out (fun _ hk => ⟨hk.1.1.1.2, ⟨hk.1.1.2, ⟨hk.1.2, ⟨hk.2, ⟨hk.1.1.1.1.1.1.1.1.1.1.1.1, ⟨hk.1.1.1.1.1.1.1.1.1.1.1.2, ⟨hk.1.1.1.1.1.1.1.1.1.1.2, ⟨hk.1.1.1.1.1.1.1.1.1.2, ⟨hk.1.1.1.1.1.1.1.1.2, ⟨hk.1.1.1.1.1.1.1.2, ⟨hk.1.1.1.1.1.1.2, ⟨hk.1.1.1.1.1.2, hk.1.1.1.1.2⟩⟩⟩⟩⟩⟩⟩⟩⟩⟩⟩⟩)), (by refine RU ?_; exact Kd.R_mono HO366.out (fun _ hk => ⟨hk.1.1.1.2, ⟨hk.1.1.2, ⟨hk.1.2, ⟨hk.2, ⟨hk.1.1.1.1.1.1.1.1.1.1.1.1, ⟨hk.1.1.1.1.1.1.1.1.1.1.1.2, ⟨hk.1.1.1.1.1.1.1.1.1.1.2, ⟨hk.1.1.1.1.1.1.1.1.1.2, ⟨hk.1.1.1.1.1.1.1.1.2, ⟨hk.1.1.1.1.1.1.1.2, ⟨hk.1.1.1.1.1.1.2, ⟨hk.1.1.1.1.1.2, hk.1.1.1.1.2⟩⟩⟩⟩⟩⟩⟩⟩⟩⟩⟩⟩)), (by refine RU ?_; exact Kd.R_mono HO_301000.out (fun _ hk => ⟨hk.1.1.1.1.1.2, ⟨hk.1.1.1.1.2, ⟨hk.1.1.1.2, ⟨hk.1.1.2, ⟨hk.1.2, ⟨hk.2, ⟨hk.1.1.1.1.1.1.1, ⟨hk.1.1.1.1.1.1.2.1, ⟨hk.1.1.1.1.1.1.2.2.1, ⟨hk.1.1.1.1.1.1.2.2.2.1, ⟨hk.1.1.1.1.1.1.2.2.2.2.1, ⟨hk.1.1.1.1.1.1.2.2.2.2.2.1, hk.1.1.1.1.1.1.2.2.2.2.2.2⟩⟩⟩⟩⟩⟩⟩⟩⟩⟩⟩⟩)), (by refine RU ?_; exact Kd.R_mono HO_301001.out (fun _ hk => ⟨hk.1.1.1.1.1.2, ⟨hk.1.1.1.1.2, ⟨hk.1.1.1.2, ⟨hk.1.1.2, ⟨hk.1.2, ⟨hk.2, ⟨hk.1.1.1.1.1.1.1, ⟨hk.1.1.1.1.1.1.2.1, ⟨hk.1.1.1.1.1.1.2.2.1, ⟨hk.1.1.1.1.1.1.2.2.2.1, ⟨hk.1.1.1.1.1.1.2.2.2.2.1, ⟨hk.1.1.1.1.1.1.2.2.2.2.2.1, hk.1.1.1.1.1.1.2.2.2.2.2.2⟩⟩⟩⟩⟩⟩⟩⟩⟩⟩⟩⟩)), (by refine RU ?_; exact Kd.R_mono HO_308000.out (fun _ hk => ⟨hk.1.1.1.1.1.2, ⟨hk.1.1.1.1.2, ⟨hk.1.1.1.2, ⟨hk.1.1.2, ⟨hk.1.2, ⟨hk.2, ⟨hk.1.1.1.1.1.1.1, ⟨hk.1.1.1.1.1.1.2.1, ⟨hk.1.1.1.1.1.1.2.2.1, ⟨hk.1.1.1.1.1.1.2.2.2.1, ⟨hk.1.1.1.1.1.1.2.2.2.2.1, ⟨hk.1.1.1.1.1.1.2.2.2.2.2.1, hk.1.1.1.1.1.1.2.2.2.2.2.2⟩⟩⟩⟩⟩⟩⟩⟩⟩⟩⟩⟩)), (by refine RU ?_; exact Kd.R_mono HO_308001.out (fun _ hk => ⟨hk.1.1.1.1.1.2, ⟨hk.1.1.1.1.2, ⟨hk.1.1.1.2, ⟨hk.1.1.2, ⟨hk.1.2, ⟨hk.2, ⟨hk.1.1.1.1.1.1.1, ⟨hk.1.1.1.1.1.1.2.1, ⟨hk.1.1.1.1.1.1.2.2.1, ⟨hk.1.1.1.1.1.1.2.2.2.1, ⟨hk.1.1.1.1.1.1.2.2.2.2.1, ⟨hk.1.1.1.1.1.1.2.2.2.2.2.1, hk.1.1.1.1.1.1.2.2.2.2.2.2⟩⟩⟩⟩⟩⟩⟩⟩⟩⟩⟩⟩)), (by refine RU ?_; exact Kd.R_mono HO_315000.out (fun _ hk => ⟨hk.1.1.1.1.1.2, ⟨hk.1.1.1.1.2, ⟨hk.1.1.1.2, ⟨hk.1.1.2, ⟨hk.1.2, ⟨hk.2, ⟨hk.1.1.1.1.1.1.1, ⟨hk.1.1.1.1.1.1.2.1, ⟨hk.1.1.1.1.1.1.2.2.1, ⟨hk.1.1.1.1.1.1.2.2.2.1, ⟨hk.1.1.1.1.1.1.2.2.2.2.1, ⟨hk.1.1.1.1.1.1.2.2.2.2.2.1, hk.1.1.1.1.1.1.2.2.2.2.2.2⟩⟩⟩⟩⟩⟩⟩⟩⟩⟩⟩⟩)), (by refine RU ?_; exact Kd.R_mono HO_315001.out (fun _ hk => ⟨hk.1.1.1.1.1.2, ⟨hk.1.1.1.1.2, ⟨hk.1.1.1.2, ⟨hk.1.1.2, ⟨hk.1.2, ⟨hk.2, ⟨hk.1.1.1.1.1.1.1, ⟨hk.1.1.1.1.1.1.2.1, ⟨hk.1.1.1.1.1.1.2.2.1, ⟨hk.1.1.1.1.1.1.2.2.2.1, ⟨hk.1.1.1.1.1.1.2.2.2.2.1, ⟨hk.1.1.1.1.1.1.2.2.2.2.2.1, hk.1.1.1.1.1.1.2.2.2.2.2.2⟩⟩⟩⟩⟩⟩⟩⟩⟩⟩⟩⟩)), (by refine RU ?_; exact Kd.R_mono HO_323000.out (fun _ hk => ⟨hk.1.1.1.1.1.2, ⟨hk.1.1.1.1.2, ⟨hk.1.1.1.2, ⟨hk.1.1.2, ⟨hk.1.2, ⟨hk.2, ⟨hk.1.1.1.1.1.1.1, ⟨hk.1.1.1.1.1.1.2.1, ⟨hk.1.1.1.1.1.1.2.2.1, ⟨hk.1.1.1.1.1.1.2.2.2.1, ⟨hk.1.1.1.1.1.1.2.2.2.2.1, ⟨hk.1.1.1.1.1.1.2.2.2.2.2.1, hk.1.1.1.1.1.1.2.2.2.2.2.2⟩⟩⟩⟩⟩⟩⟩⟩⟩⟩⟩⟩)), (by refine RU ?_; exact Kd.R_mono HO_323001.out (fun _ hk => ⟨hk.1.1.1.1.1.2, ⟨hk.1.1.1.1.2, ⟨hk.1.1.1.2, ⟨hk.1.1.2, ⟨hk.1.2, ⟨hk.2, ⟨hk.1.1.1.1.1.1.1, ⟨hk.1.1.1.1.1.1.2.1, ⟨hk.1.1.1.1.1.1.2.2.1, ⟨hk.1.1.1.1.1.1.2.2.2.1, ⟨hk.1.1.1.1.1.1.2.2.2.2.1, ⟨hk.1.1.1.1.1.1.2.2.2.2.2.1, hk.1.1.1.1.1.1.2.2.2.2.2.2⟩⟩⟩⟩⟩⟩⟩⟩⟩⟩⟩⟩)), (kU BK277.out), (kU BK278.out), (kU BK300.out), (kU BK307.out), (kU BK314.out), (kU BK322.out), (kU BK368.out), GW368.out, GE368.out, NB277_368.out, NB368_277.out, NB278_368.out, NB368_278.out, NB300_368.out, NB368_300.out, NB307_368.out, NB368_307.out, NB314_368.out, NB368_314.out, NB322_368.out, NB368_322.out, (bS7 HB.out GE277.out GE278.out GE300.out GE307.out GE314.out GE322.out GE368.out)⟩)
               ·
                skip
                refine box_step ?hg (N := 15) ?hd (cs := #[.slice none 0 0, .slice none 0 0]) (t := 28) ?hr ?_; (case hd => rfl); (case hg => rfl); (case hr => first | (go_simp; done) | (go_simp; rfl))
                intro gb368 hg w163 hbox hb
                replace HO_301000 := Aside0.mk (Kd.R_below (RU HO_301000.out) hb)
                replace HO_301001 := Aside0.mk (Kd.R_below (RU HO_301001.out) hb)
                replace HO_308000 := Aside0.mk (Kd.R_below (RU HO_308000.out) hb)
                replace HO_308001 := Aside0.mk (Kd.R_below (RU HO_308001.out) hb)
                replace HO_315000 := Aside0.mk (Kd.R_below (RU HO_315000.out) hb)
                replace HO_315001 := Aside0.mk (Kd.R_below (RU HO_315001.out) hb)
                replace HO_323000 := Aside0.mk (Kd.R_below (RU HO_323000.out) hb)
                replace HO_323001 := Aside0.mk (Kd.R_below (RU HO_323001.out) hb)
                replace HO351 := Aside0.mk (Kd.R_below (RU HO351.out) hb)
                replace HO354 := Aside0.mk (Kd.R_below (RU HO354.out) hb)
                have BK368 := Aside0.mk (hbox)
                have GW368 := Aside0.mk ((by rw [hg]; exact (below_size (bS6 HB.out GE277.out GE278.out GE300.out GE307.out GE314.out GE322.out)) : w.heap.size ≤ gb368))
                have GE368 := Aside0.mk ((by rw [hg]; exact (below_size (bS6 HB.out GE277.out GE278.out GE300.out GE307.out GE314.out GE322.out)) : w.heap.size ≤ gb368))
                replace HB := Aside0.mk (below_step (bS6 HB.out GE277.out GE278.out GE300.out GE307.out GE314.out GE322.out) hb)
                have NB277_368 := Aside0.mk (kN BK277.out hg)
                have NB368_277 := Aside0.mk (kM BK277.out hg)
                replace BK277 := Aside0.mk (kB BK277.out hb)
                have NB278_368 := Aside0.mk (kN BK278.out hg)
                have NB368_278 := Aside0.mk (kM BK278.out hg)
                replace BK278 := Aside0.mk (kB BK278.out hb)
                have NB300_368 := Aside0.mk (kN BK300.out hg)
                have NB368_300 := Aside0.mk (kM BK300.out hg)
                replace BK300 := Aside0.mk (kB BK300.out hb)
                have NB307_368 := Aside0.mk (kN BK307.out hg)
                have NB368_307 := Aside0.mk (kM BK307.out hg)
                replace BK307 := Aside0.mk (kB BK307.out hb)
                have NB314_368 := Aside0.mk (kN BK314.out hg)
                have NB368_314 := Aside0.mk (kM BK314.out hg)
                replace BK314 := Aside0.mk (kB BK314.out hb)
                have NB322_368 := Aside0.mk (kN BK322.out hg)
                have NB368_322 := Aside0.mk (kM BK322.out hg)
                replace BK322 := Aside0.mk (kB BK322.out hb)
                clear hb hbox hg
                refine hK.out _ _ ⟨(blk_cell BK277.out 0).trans rfl, (blk_cell BK277.out 1).trans rfl, (blk_cell BK278.out 0).trans rfl, (blk_cell BK278.out 1).trans rfl⟩ (fun hHeld => ?_)
                clear hK K
                refine norm_ (a' := ?_) ?_ ?_
                rotate_left
                ·
                 show Act.put _ (some 15) _ = _
                 simp only [Act.put, List.setIfInBounds_toArray, List.set_cons_zero, List.set_cons_succ, i64_w, i32_w]
                 rfl
                refine one_ (i := 3) (N := some 98) #[true, true, true, true, false, false, false, false, true, false, false] rfl rfl (one_of HT_.out (by kernel_rfl)) (by decide) (fun K hK => ?_)
                refine goes_ Try.func7 (by kernel_rfl) rfl #[.agg #[.slice A1_0 l1_0.length c1_0, .slice A1_1 l1_1.length c1_1]] (by rfl) rfl rfl lU ?_
                with_reducible refine (laws_toArray.calls kj103 _ _ l1_0 _ _ l1_1 t355 t358 _ ?side1 ?side2 ?side3 ?side4 A149.out).mono ?_
                (case side1 => exact cU (Kd.C_below HR1_0.out HB.out))
                (case side2 => exact HC1_0.out)
                (case side3 => exact cU (Kd.C_below HR1_1.out HB.out))
                (case side4 => exact HC1_1.out)
                rintro e w164 ⟨v356, v359, rfl, ho0, ho1, hb⟩
                refine ⟨_, rfl, ?_⟩
                have HO357 := Aside0.mk (Kd.R_lower (Kd.R_new' (Kd.R_new' (Kd.R_new' (Kd.R_new' (Kd.R_new' (Kd.R_new' (Kd.R_new' (Kd.R_new' (Kd.R_new' (Kd.R_new' ho0 (Kd.R_lt (RU HO_301000.out))) (Kd.R_lt (RU HO_301001.out))) (Kd.R_lt (RU HO_308000.out))) (Kd.R_lt (RU HO_308001.out))) (Kd.R_lt (RU HO_315000.out))) (Kd.R_lt (RU HO_315001.out))) (Kd.R_lt (RU HO_323000.out))) (Kd.R_lt (RU HO_323001.out))) (Kd.R_lt (RU HO351.out))) (Kd.R_lt (RU HO354.out))) (below_size (bS7 HB.out GE277.out GE278.out GE300.out GE307.out GE314.out GE322.out GE368.out)))
                have HO360 := Aside0.mk (Kd.R_lower (Kd.R_new' (Kd.R_new' (Kd.R_new' (Kd.R_new' (Kd.R_new' (Kd.R_new' (Kd.R_new' (Kd.R_new' (Kd.R_new' (Kd.R_new' ho1 (Kd.R_lt (RU HO_301000.out))) (Kd.R_lt (RU HO_301001.out))) (Kd.R_lt (RU HO_308000.out))) (Kd.R_lt (RU HO_308001.out))) (Kd.R_lt (RU HO_315000.out))) (Kd.R_lt (RU HO_315001.out))) (Kd.R_lt (RU HO_323000.out))) (Kd.R_lt (RU HO_323001.out))) (Kd.R_lt (RU HO351.out))) (Kd.R_lt (RU HO354.out))) (below_size (bS7 HB.out GE277.out GE278.out GE300.out GE307.out GE314.out GE322.out GE368.out)))
                replace HO_301000 := Aside0.mk (Kd.R_mono (Kd.R_told (Kd.R_told (Kd.R_old (RU HO_301000.out) hb) (Kd.R_base ho0)) (Kd.R_base ho1)) (fun _ h_ => h_.1))
                replace HO_301001 := Aside0.mk (Kd.R_mono (Kd.R_told (Kd.R_told (Kd.R_old (RU HO_301001.out) hb) (Kd.R_base ho0)) (Kd.R_base ho1)) (fun _ h_ => h_.1))
                replace HO_308000 := Aside0.mk (Kd.R_mono (Kd.R_told (Kd.R_told (Kd.R_old (RU HO_308000.out) hb) (Kd.R_base ho0)) (Kd.R_base ho1)) (fun _ h_ => h_.1))
                replace HO_308001 := Aside0.mk (Kd.R_mono (Kd.R_told (Kd.R_told (Kd.R_old (RU HO_308001.out) hb) (Kd.R_base ho0)) (Kd.R_base ho1)) (fun _ h_ => h_.1))
                replace HO_315000 := Aside0.mk (Kd.R_mono (Kd.R_told (Kd.R_told (Kd.R_old (RU HO_315000.out) hb) (Kd.R_base ho0)) (Kd.R_base ho1)) (fun _ h_ => h_.1))
                replace HO_315001 := Aside0.mk (Kd.R_mono (Kd.R_told (Kd.R_told (Kd.R_old (RU HO_315001.out) hb) (Kd.R_base ho0)) (Kd.R_base ho1)) (fun _ h_ => h_.1))
                replace HO_323000 := Aside0.mk (Kd.R_mono (Kd.R_told (Kd.R_told (Kd.R_old (RU HO_323000.out) hb) (Kd.R_base ho0)) (Kd.R_base ho1)) (fun _ h_ => h_.1))
                replace HO_323001 := Aside0.mk (Kd.R_mono (Kd.R_told (Kd.R_told (Kd.R_old (RU HO_323001.out) hb) (Kd.R_base ho0)) (Kd.R_base ho1)) (fun _ h_ => h_.1))
                replace HO351 := Aside0.mk (Kd.R_mono (Kd.R_told (Kd.R_told (Kd.R_old (RU HO351.out) hb) (Kd.R_base ho0)) (Kd.R_base ho1)) (fun _ h_ => h_.1))
                replace HO354 := Aside0.mk (Kd.R_mono (Kd.R_told (Kd.R_told (Kd.R_old (RU HO354.out) hb) (Kd.R_base ho0)) (Kd.R_base ho1)) (fun _ h_ => h_.1))
                replace BK277 := Aside0.mk (kB BK277.out hb)
                replace BK278 := Aside0.mk (kB BK278.out hb)
                replace BK300 := Aside0.mk (kB BK300.out hb)
                replace BK307 := Aside0.mk (kB BK307.out hb)
                replace BK314 := Aside0.mk (kB BK314.out hb)
                replace BK322 := Aside0.mk (kB BK322.out hb)
                replace BK368 := Aside0.mk (kB BK368.out hb)
                replace HB := Aside0.mk (below_step (bS7 HB.out GE277.out GE278.out GE300.out GE307.out GE314.out GE322.out GE368.out) hb)
                (try clear hb)
                (try clear hb2)
                (try clear hk)
                (try clear hi)
                (try clear ho0)
                (try clear ho1)
                obtain ⟨Ao165, co165, eo165⟩ := Kd.R_slice HO351.out
                (first | subst eo165 | (injection eo165 with f1_ f2_ f3_; have f4_ := f1_.symm; have f5_ := f3_.symm; clear f1_ f2_ f3_; subst f4_; subst f5_))
                obtain ⟨Ao166, co166, eo166⟩ := Kd.R_slice HO354.out
                (first | subst eo166 | (injection eo166 with f1_ f2_ f3_; have f4_ := f1_.symm; have f5_ := f3_.symm; clear f1_ f2_ f3_; subst f4_; subst f5_))
                obtain ⟨Ao167, co167, eo167⟩ := Kd.R_slice HO357.out
                (first | subst eo167 | (injection eo167 with f1_ f2_ f3_; have f4_ := f1_.symm; have f5_ := f3_.symm; clear f1_ f2_ f3_; subst f4_; subst f5_))
                obtain ⟨Ao168, co168, eo168⟩ := Kd.R_slice HO360.out
                (first | subst eo168 | (injection eo168 with f1_ f2_ f3_; have f4_ := f1_.symm; have f5_ := f3_.symm; clear f1_ f2_ f3_; subst f4_; subst f5_))
                refine hK.out _ _ ⟨(blk_cell BK277.out 0).trans rfl, (blk_cell BK277.out 1).trans rfl, (blk_cell BK278.out 0).trans rfl, (blk_cell BK278.out 1).trans rfl⟩ (fun hHeld => ?_)
                clear hK K
                refine norm_ (a' := ?_) ?_ ?_
                rotate_left
                ·
                 show Act.put _ (some 98) _ = _
                 simp only [Act.put, List.setIfInBounds_toArray, List.set_cons_zero, List.set_cons_succ, i64_w, i32_w]
                 rfl
                refine one_ (i := 4) (N := some 99) #[true, true, true, true, true, false, false, false, true, false, false] rfl rfl (one_of HT_.out (by kernel_rfl)) (by decide) (fun K hK => ?_)
                refine goes_ Try.func15 (by kernel_rfl) rfl #[.agg #[.slice Ao165 t349.length co165, .slice Ao166 t352.length co166], .agg #[.slice Ao167 t355.length co167, .slice Ao168 t358.length co168]] (by rfl) rfl rfl lU ?_
                with_reducible refine (impl_Pick.calls kj103 (fun k_ => some k_ = (.slice Ao165 t349.length co165 : Value).ownBlock) _ _ t349 _ _ t352 (fun k_ => some k_ = (.slice Ao167 t355.length co167 : Value).ownBlock) _ _ t355 _ _ t358 t361 t364 t367 _ ?side1 ?side2 ?side3 ?side4 ?side5 ?side6 A150.out).mono ?_
                (case side1 => exact Kd.R_V (Kd.R_tight rfl (Kd.R_types (Kd.R_types (Kd.R_types (Kd.R_types (Kd.R_types (Kd.R_types (Kd.R_types (HO351.out) BK277.out (by decide)) BK278.out (by decide)) BK300.out (by decide)) BK307.out (by decide)) BK314.out (by decide)) BK322.out (by decide)) BK368.out (by decide))))
                (case side2 => exact cU (Kd.R_reads' HO354.out).2.2)
                (case side3 => exact (Kd.R_reads' HO354.out).2.1)
                (case side4 => exact Kd.R_V (Kd.R_tight rfl (Kd.R_types (Kd.R_types (Kd.R_types (Kd.R_types (Kd.R_types (Kd.R_types (Kd.R_types (HO357.out) BK277.out (by decide)) BK278.out (by decide)) BK300.out (by decide)) BK307.out (by decide)) BK314.out (by decide)) BK322.out (by decide)) BK368.out (by decide))))
                (case side5 => exact cU (Kd.R_reads' HO360.out).2.2)
                (case side6 => exact (Kd.R_reads' HO360.out).2.1)
                rintro e w169 ⟨v362, v365, rfl, ho0, ho1, hb⟩
                refine ⟨_, rfl, ?_⟩
                have HO363 := Aside0.mk (Kd.R_lower (Kd.R_new' (Kd.R_new' (Kd.R_new' (Kd.R_new' (Kd.R_new' (Kd.R_new' (Kd.R_new' (Kd.R_new' (Kd.R_new' (Kd.R_new' (Kd.R_new' (Kd.R_new' (Kd.R_mono (ok' := fun k_ => some k_ ≠ (v365 : Value).ownBlock) ho0 (fun _ hk_ => hk_.2)) (Kd.R_lt (RU HO_301000.out))) (Kd.R_lt (RU HO_301001.out))) (Kd.R_lt (RU HO_308000.out))) (Kd.R_lt (RU HO_308001.out))) (Kd.R_lt (RU HO_315000.out))) (Kd.R_lt (RU HO_315001.out))) (Kd.R_lt (RU HO_323000.out))) (Kd.R_lt (RU HO_323001.out))) (Kd.R_lt (RU HO351.out))) (Kd.R_lt (RU HO354.out))) (Kd.R_lt (RU HO357.out))) (Kd.R_lt (RU HO360.out))) (below_size (bS7 HB.out GE277.out GE278.out GE300.out GE307.out GE314.out GE322.out GE368.out)))
                have HO366 := Aside0.mk (Kd.R_lower (Kd.R_new' (Kd.R_new' (Kd.R_new' (Kd.R_new' (Kd.R_new' (Kd.R_new' (Kd.R_new' (Kd.R_new' (Kd.R_new' (Kd.R_new' (Kd.R_new' (Kd.R_new' (Kd.R_mono (ok' := fun k_ => some k_ ≠ (v362 : Value).ownBlock) ho1 (fun _ hk_ => hk_.2)) (Kd.R_lt (RU HO_301000.out))) (Kd.R_lt (RU HO_301001.out))) (Kd.R_lt (RU HO_308000.out))) (Kd.R_lt (RU HO_308001.out))) (Kd.R_lt (RU HO_315000.out))) (Kd.R_lt (RU HO_315001.out))) (Kd.R_lt (RU HO_323000.out))) (Kd.R_lt (RU HO_323001.out))) (Kd.R_lt (RU HO351.out))) (Kd.R_lt (RU HO354.out))) (Kd.R_lt (RU HO357.out))) (Kd.R_lt (RU HO360.out))) (below_size (bS7 HB.out GE277.out GE278.out GE300.out GE307.out GE314.out GE322.out GE368.out)))
                replace HO_301000 := Aside0.mk (Kd.R_mono (Kd.R_told (Kd.R_told (Kd.R_old (RU HO_301000.out) hb) (Kd.R_base ho0)) (Kd.R_base ho1)) (fun _ h_ => h_.1))
                replace HO_301001 := Aside0.mk (Kd.R_mono (Kd.R_told (Kd.R_told (Kd.R_old (RU HO_301001.out) hb) (Kd.R_base ho0)) (Kd.R_base ho1)) (fun _ h_ => h_.1))
                replace HO_308000 := Aside0.mk (Kd.R_mono (Kd.R_told (Kd.R_told (Kd.R_old (RU HO_308000.out) hb) (Kd.R_base ho0)) (Kd.R_base ho1)) (fun _ h_ => h_.1))
                replace HO_308001 := Aside0.mk (Kd.R_mono (Kd.R_told (Kd.R_told (Kd.R_old (RU HO_308001.out) hb) (Kd.R_base ho0)) (Kd.R_base ho1)) (fun _ h_ => h_.1))
                replace HO_315000 := Aside0.mk (Kd.R_mono (Kd.R_told (Kd.R_told (Kd.R_old (RU HO_315000.out) hb) (Kd.R_base ho0)) (Kd.R_base ho1)) (fun _ h_ => h_.1))
                replace HO_315001 := Aside0.mk (Kd.R_mono (Kd.R_told (Kd.R_told (Kd.R_old (RU HO_315001.out) hb) (Kd.R_base ho0)) (Kd.R_base ho1)) (fun _ h_ => h_.1))
                replace HO_323000 := Aside0.mk (Kd.R_mono (Kd.R_told (Kd.R_told (Kd.R_old (RU HO_323000.out) hb) (Kd.R_base ho0)) (Kd.R_base ho1)) (fun _ h_ => h_.1))
                replace HO_323001 := Aside0.mk (Kd.R_mono (Kd.R_told (Kd.R_told (Kd.R_old (RU HO_323001.out) hb) (Kd.R_base ho0)) (Kd.R_base ho1)) (fun _ h_ => h_.1))
                replace HO351 := Aside0.mk (Kd.R_mono (Kd.R_told (Kd.R_told (Kd.R_old (RU HO351.out) hb) (Kd.R_base ho0)) (Kd.R_base ho1)) (fun _ h_ => h_.1))
                replace HO354 := Aside0.mk (Kd.R_mono (Kd.R_told (Kd.R_told (Kd.R_old (RU HO354.out) hb) (Kd.R_base ho0)) (Kd.R_base ho1)) (fun _ h_ => h_.1))
                replace HO357 := Aside0.mk (Kd.R_mono (Kd.R_told (Kd.R_told (Kd.R_old (RU HO357.out) hb) (Kd.R_base ho0)) (Kd.R_base ho1)) (fun _ h_ => h_.1))
                replace HO360 := Aside0.mk (Kd.R_mono (Kd.R_told (Kd.R_told (Kd.R_old (RU HO360.out) hb) (Kd.R_base ho0)) (Kd.R_base ho1)) (fun _ h_ => h_.1))
                replace BK277 := Aside0.mk (kB BK277.out hb)
                replace BK278 := Aside0.mk (kB BK278.out hb)
                replace BK300 := Aside0.mk (kB BK300.out hb)
                replace BK307 := Aside0.mk (kB BK307.out hb)
                replace BK314 := Aside0.mk (kB BK314.out hb)
                replace BK322 := Aside0.mk (kB BK322.out hb)
                replace BK368 := Aside0.mk (kB BK368.out hb)
                replace HB := Aside0.mk (below_step (bS7 HB.out GE277.out GE278.out GE300.out GE307.out GE314.out GE322.out GE368.out) hb)
                (try clear hb)
                (try clear hb2)
                (try clear hk)
                (try clear hi)
                (try clear ho0)
                (try clear ho1)
                refine hK.out _ _ ⟨(blk_cell BK277.out 0).trans rfl, (blk_cell BK277.out 1).trans rfl, (blk_cell BK278.out 0).trans rfl, (blk_cell BK278.out 1).trans rfl⟩ (fun hHeld => ?_)
                clear hK K
                refine norm_ (a' := ?_) ?_ ?_
                rotate_left
                ·
                 show Act.put _ (some 99) _ = _
                 simp only [Act.put, List.setIfInBounds_toArray, List.set_cons_zero, List.set_cons_succ, i64_w, i32_w]
                 rfl
                refine pure_ (i := 5) (N := some 94) (v := ?_) (a' := ?_) #[true, true, true, true, true, true, false, false, true, false, false] rfl rfl (any_of HT_.out (by kernel_rfl)) (fun _ _ _ h => h) (Or.inl ⟨by rfl, ?_⟩) ?_ ?_
                rotate_left
                ·
                 intro w'
                 go_simp
                 with_reducible rfl
                rotate_left
                ·
                 simp only [Act.put, List.setIfInBounds_toArray, List.set_cons_zero, List.set_cons_succ, i64_w, i32_w]
                 rfl
                refine pure_ (i := 6) (N := some 100) (v := ?_) (a' := ?_) #[true, true, true, true, true, true, true, false, true, false, false] rfl rfl (any_of HT_.out (by kernel_rfl)) (fun _ _ _ h => h) (Or.inl ⟨by rfl, ?_⟩) ?_ ?_
                rotate_left
                ·
                 intro w'
                 go_simp
                 with_reducible rfl
                rotate_left
                ·
                 simp only [Act.put, List.setIfInBounds_toArray, List.set_cons_zero, List.set_cons_succ, i64_w, i32_w]
                 rfl
                refine pure_ (i := 7) (N := some 101) (v := ?_) (a' := ?_) #[true, true, true, true, true, true, true, true, true, false, false] rfl rfl (any_of HT_.out (by kernel_rfl)) (fun _ _ _ h => h) (Or.inl ⟨by rfl, ?_⟩) ?_ ?_
                rotate_left
                ·
                 intro w'
                 go_simp
                 with_reducible rfl
                rotate_left
                ·
                 simp only [Act.put, List.setIfInBounds_toArray, List.set_cons_zero, List.set_cons_succ, i64_w, i32_w]
                 rfl
                exact norm_ (by simp only [putAll, Act.put, List.setIfInBounds_toArray, List.set_cons_zero, List.set_cons_succ]) (hCont (.slice Ao165 t349.length co165, .slice Ao166 t352.length co166, .slice Ao167 t355.length co167, .slice Ao168 t358.length co168, v362, v365, gb368) _ ⟨hHeld, (by refine RU ?_; exact Kd.R_mono HO351.out (fun _ hk => ⟨hk.1.1.1.1.1.1.1.1.1.1.1.1, ⟨hk.1.1.1.2, ⟨hk.1.1.2, ⟨hk.1.2, ⟨hk.2, ⟨hk.1.1.1.1.1.1.1.1.1.1.1.2, ⟨hk.1.1.1.1.1.1.1.1.1.1.2, ⟨hk.1.1.1.1.1.1.1.1.1.2, ⟨hk.1.1.1.1.1.1.1.1.2, ⟨hk.1.1.1.1.1.1.1.2, ⟨hk.1.1.1.1.1.1.2, ⟨hk.1.1.1.1.1.2, hk.1.1.1.1.2⟩⟩⟩⟩⟩⟩⟩⟩⟩⟩⟩⟩)), (by refine RU ?_; exact Kd.R_mono HO354.out (fun _ hk => ⟨hk.1.1.1.1.1.1.1.1.1.1.1.1, ⟨hk.1.1.1.2, ⟨hk.1.1.2, ⟨hk.1.2, ⟨hk.2, ⟨hk.1.1.1.1.1.1.1.1.1.1.1.2, ⟨hk.1.1.1.1.1.1.1.1.1.1.2, ⟨hk.1.1.1.1.1.1.1.1.1.2, ⟨hk.1.1.1.1.1.1.1.1.2, ⟨hk.1.1.1.1.1.1.1.2, ⟨hk.1.1.1.1.1.1.2, ⟨hk.1.1.1.1.1.2, hk.1.1.1.1.2⟩⟩⟩⟩⟩⟩⟩⟩⟩⟩⟩⟩)), (by refine RU ?_; exact Kd.R_mono HO357.out (fun _ hk => ⟨hk.1.1.1.2, ⟨hk.1.1.2, ⟨hk.1.1.1.1.1.1.1.1.1.1.1.1, ⟨hk.1.2, ⟨hk.2, ⟨hk.1.1.1.1.1.1.1.1.1.1.1.2, ⟨hk.1.1.1.1.1.1.1.1.1.1.2, ⟨hk.1.1.1.1.1.1.1.1.1.2, ⟨hk.1.1.1.1.1.1.1.1.2, ⟨hk.1.1.1.1.1.1.1.2, ⟨hk.1.1.1.1.1.1.2, ⟨hk.1.1.1.1.1.2, hk.1.1.1.1.2⟩⟩⟩⟩⟩⟩⟩⟩⟩⟩⟩⟩)), (by refine RU ?_; exact Kd.R_mono HO360.out (fun _ hk => ⟨hk.1.1.1.2, ⟨hk.1.1.2, ⟨hk.1.1.1.1.1.1.1.1.1.1.1.1, ⟨hk.1.2, ⟨hk.2, ⟨hk.1.1.1.1.1.1.1.1.1.1.1.2, ⟨hk.1.1.1.1.1.1.1.1.1.1.2, ⟨hk.1.1.1.1.1.1.1.1.1.2, ⟨hk.1.1.1.1.1.1.1.1.2, ⟨hk.1.1.1.1.1.1.1.2, ⟨hk.1.1.1.1.1.1.2, ⟨hk.1.1.1.1.1.2, hk.1.1.1.1.2⟩⟩⟩⟩⟩⟩⟩⟩⟩⟩⟩⟩)), (by refine RU ?_; exact Kd.R_mono HO363.out (fun _ hk => ⟨hk.1.1.1.2, ⟨hk.1.1.2, ⟨hk.1.2, ⟨hk.2, ⟨hk.1.1.1.1.1.1.1.1.1.1.1.1, ⟨hk.1.1.1.1.1.1.1.1.1.1.1.2, ⟨hk.1.1.1.1.1.1.1.1.1.1.2, ⟨hk.1.1.1.1.1.1.1.1.1.2, ⟨hk.1.1.1.1.1.1.1.1.2, ⟨hk.1.1.1.1.1.1.1.2, ⟨hk.1.1.1.1.1.1.2, ⟨hk.1.1.1.1.1.2, hk.1.1.1.1.2⟩⟩⟩⟩⟩⟩⟩⟩⟩⟩⟩⟩)), (by refine RU ?_; exact Kd.R_mono HO366.out (fun _ hk => ⟨hk.1.1.1.2, ⟨hk.1.1.2, ⟨hk.1.2, ⟨hk.2, ⟨hk.1.1.1.1.1.1.1.1.1.1.1.1, ⟨hk.1.1.1.1.1.1.1.1.1.1.1.2, ⟨hk.1.1.1.1.1.1.1.1.1.1.2, ⟨hk.1.1.1.1.1.1.1.1.1.2, ⟨hk.1.1.1.1.1.1.1.1.2, ⟨hk.1.1.1.1.1.1.1.2, ⟨hk.1.1.1.1.1.1.2, ⟨hk.1.1.1.1.1.2, hk.1.1.1.1.2⟩⟩⟩⟩⟩⟩⟩⟩⟩⟩⟩⟩)), (by refine RU ?_; exact Kd.R_mono HO_301000.out (fun _ hk => ⟨hk.1.1.1.1.1.2, ⟨hk.1.1.1.1.2, ⟨hk.1.1.1.2, ⟨hk.1.1.2, ⟨hk.1.2, ⟨hk.2, ⟨hk.1.1.1.1.1.1.1, ⟨hk.1.1.1.1.1.1.2.1, ⟨hk.1.1.1.1.1.1.2.2.1, ⟨hk.1.1.1.1.1.1.2.2.2.1, ⟨hk.1.1.1.1.1.1.2.2.2.2.1, ⟨hk.1.1.1.1.1.1.2.2.2.2.2.1, hk.1.1.1.1.1.1.2.2.2.2.2.2⟩⟩⟩⟩⟩⟩⟩⟩⟩⟩⟩⟩)), (by refine RU ?_; exact Kd.R_mono HO_301001.out (fun _ hk => ⟨hk.1.1.1.1.1.2, ⟨hk.1.1.1.1.2, ⟨hk.1.1.1.2, ⟨hk.1.1.2, ⟨hk.1.2, ⟨hk.2, ⟨hk.1.1.1.1.1.1.1, ⟨hk.1.1.1.1.1.1.2.1, ⟨hk.1.1.1.1.1.1.2.2.1, ⟨hk.1.1.1.1.1.1.2.2.2.1, ⟨hk.1.1.1.1.1.1.2.2.2.2.1, ⟨hk.1.1.1.1.1.1.2.2.2.2.2.1, hk.1.1.1.1.1.1.2.2.2.2.2.2⟩⟩⟩⟩⟩⟩⟩⟩⟩⟩⟩⟩)), (by refine RU ?_; exact Kd.R_mono HO_308000.out (fun _ hk => ⟨hk.1.1.1.1.1.2, ⟨hk.1.1.1.1.2, ⟨hk.1.1.1.2, ⟨hk.1.1.2, ⟨hk.1.2, ⟨hk.2, ⟨hk.1.1.1.1.1.1.1, ⟨hk.1.1.1.1.1.1.2.1, ⟨hk.1.1.1.1.1.1.2.2.1, ⟨hk.1.1.1.1.1.1.2.2.2.1, ⟨hk.1.1.1.1.1.1.2.2.2.2.1, ⟨hk.1.1.1.1.1.1.2.2.2.2.2.1, hk.1.1.1.1.1.1.2.2.2.2.2.2⟩⟩⟩⟩⟩⟩⟩⟩⟩⟩⟩⟩)), (by refine RU ?_; exact Kd.R_mono HO_308001.out (fun _ hk => ⟨hk.1.1.1.1.1.2, ⟨hk.1.1.1.1.2, ⟨hk.1.1.1.2, ⟨hk.1.1.2, ⟨hk.1.2, ⟨hk.2, ⟨hk.1.1.1.1.1.1.1, ⟨hk.1.1.1.1.1.1.2.1, ⟨hk.1.1.1.1.1.1.2.2.1, ⟨hk.1.1.1.1.1.1.2.2.2.1, ⟨hk.1.1.1.1.1.1.2.2.2.2.1, ⟨hk.1.1.1.1.1.1.2.2.2.2.2.1, hk.1.1.1.1.1.1.2.2.2.2.2.2⟩⟩⟩⟩⟩⟩⟩⟩⟩⟩⟩⟩)), (by refine RU ?_; exact Kd.R_mono HO_315000.out (fun _ hk => ⟨hk.1.1.1.1.1.2, ⟨hk.1.1.1.1.2, ⟨hk.1.1.1.2, ⟨hk.1.1.2, ⟨hk.1.2, ⟨hk.2, ⟨hk.1.1.1.1.1.1.1, ⟨hk.1.1.1.1.1.1.2.1, ⟨hk.1.1.1.1.1.1.2.2.1, ⟨hk.1.1.1.1.1.1.2.2.2.1, ⟨hk.1.1.1.1.1.1.2.2.2.2.1, ⟨hk.1.1.1.1.1.1.2.2.2.2.2.1, hk.1.1.1.1.1.1.2.2.2.2.2.2⟩⟩⟩⟩⟩⟩⟩⟩⟩⟩⟩⟩)), (by refine RU ?_; exact Kd.R_mono HO_315001.out (fun _ hk => ⟨hk.1.1.1.1.1.2, ⟨hk.1.1.1.1.2, ⟨hk.1.1.1.2, ⟨hk.1.1.2, ⟨hk.1.2, ⟨hk.2, ⟨hk.1.1.1.1.1.1.1, ⟨hk.1.1.1.1.1.1.2.1, ⟨hk.1.1.1.1.1.1.2.2.1, ⟨hk.1.1.1.1.1.1.2.2.2.1, ⟨hk.1.1.1.1.1.1.2.2.2.2.1, ⟨hk.1.1.1.1.1.1.2.2.2.2.2.1, hk.1.1.1.1.1.1.2.2.2.2.2.2⟩⟩⟩⟩⟩⟩⟩⟩⟩⟩⟩⟩)), (by refine RU ?_; exact Kd.R_mono HO_323000.out (fun _ hk => ⟨hk.1.1.1.1.1.2, ⟨hk.1.1.1.1.2, ⟨hk.1.1.1.2, ⟨hk.1.1.2, ⟨hk.1.2, ⟨hk.2, ⟨hk.1.1.1.1.1.1.1, ⟨hk.1.1.1.1.1.1.2.1, ⟨hk.1.1.1.1.1.1.2.2.1, ⟨hk.1.1.1.1.1.1.2.2.2.1, ⟨hk.1.1.1.1.1.1.2.2.2.2.1, ⟨hk.1.1.1.1.1.1.2.2.2.2.2.1, hk.1.1.1.1.1.1.2.2.2.2.2.2⟩⟩⟩⟩⟩⟩⟩⟩⟩⟩⟩⟩)), (by refine RU ?_; exact Kd.R_mono HO_323001.out (fun _ hk => ⟨hk.1.1.1.1.1.2, ⟨hk.1.1.1.1.2, ⟨hk.1.1.1.2, ⟨hk.1.1.2, ⟨hk.1.2, ⟨hk.2, ⟨hk.1.1.1.1.1.1.1, ⟨hk.1.1.1.1.1.1.2.1, ⟨hk.1.1.1.1.1.1.2.2.1, ⟨hk.1.1.1.1.1.1.2.2.2.1, ⟨hk.1.1.1.1.1.1.2.2.2.2.1, ⟨hk.1.1.1.1.1.1.2.2.2.2.2.1, hk.1.1.1.1.1.1.2.2.2.2.2.2⟩⟩⟩⟩⟩⟩⟩⟩⟩⟩⟩⟩)), (kU BK277.out), (kU BK278.out), (kU BK300.out), (kU BK307.out), (kU BK314.out), (kU BK322.out), (kU BK368.out), GW368.out, GE368.out, NB277_368.out, NB368_277.out, NB278_368.out, NB368_278.out, NB300_368.out, NB368_300.out, NB307_368.out, NB368_307.out, NB314_368.out, NB368_314.out, NB322_368.out, NB368_322.out, (bS7 HB.out GE277.out GE278.out GE300.out GE307.out GE314.out GE322.out GE368.out)⟩)
              ·
               skip
               refine box_step ?hg (N := 15) ?hd (cs := #[.slice none 0 0, .slice none 0 0]) (t := 28) ?hr ?_; (case hd => rfl); (case hg => rfl); (case hr => first | (go_simp; done) | (go_simp; rfl))
               intro gb368 hg w162 hbox hb
               replace HO_301000 := Aside0.mk (Kd.R_below (RU HO_301000.out) hb)
               replace HO_301001 := Aside0.mk (Kd.R_below (RU HO_301001.out) hb)
               replace HO_308000 := Aside0.mk (Kd.R_below (RU HO_308000.out) hb)
               replace HO_308001 := Aside0.mk (Kd.R_below (RU HO_308001.out) hb)
               replace HO_315000 := Aside0.mk (Kd.R_below (RU HO_315000.out) hb)
               replace HO_315001 := Aside0.mk (Kd.R_below (RU HO_315001.out) hb)
               replace HO_323000 := Aside0.mk (Kd.R_below (RU HO_323000.out) hb)
               replace HO_323001 := Aside0.mk (Kd.R_below (RU HO_323001.out) hb)
               have BK368 := Aside0.mk (hbox)
               have GW368 := Aside0.mk ((by rw [hg]; exact (below_size (bS6 HB.out GE277.out GE278.out GE300.out GE307.out GE314.out GE322.out)) : w.heap.size ≤ gb368))
               have GE368 := Aside0.mk ((by rw [hg]; exact (below_size (bS6 HB.out GE277.out GE278.out GE300.out GE307.out GE314.out GE322.out)) : w.heap.size ≤ gb368))
               replace HB := Aside0.mk (below_step (bS6 HB.out GE277.out GE278.out GE300.out GE307.out GE314.out GE322.out) hb)
               have NB277_368 := Aside0.mk (kN BK277.out hg)
               have NB368_277 := Aside0.mk (kM BK277.out hg)
               replace BK277 := Aside0.mk (kB BK277.out hb)
               have NB278_368 := Aside0.mk (kN BK278.out hg)
               have NB368_278 := Aside0.mk (kM BK278.out hg)
               replace BK278 := Aside0.mk (kB BK278.out hb)
               have NB300_368 := Aside0.mk (kN BK300.out hg)
               have NB368_300 := Aside0.mk (kM BK300.out hg)
               replace BK300 := Aside0.mk (kB BK300.out hb)
               have NB307_368 := Aside0.mk (kN BK307.out hg)
               have NB368_307 := Aside0.mk (kM BK307.out hg)
               replace BK307 := Aside0.mk (kB BK307.out hb)
               have NB314_368 := Aside0.mk (kN BK314.out hg)
               have NB368_314 := Aside0.mk (kM BK314.out hg)
               replace BK314 := Aside0.mk (kB BK314.out hb)
               have NB322_368 := Aside0.mk (kN BK322.out hg)
               have NB368_322 := Aside0.mk (kM BK322.out hg)
               replace BK322 := Aside0.mk (kB BK322.out hb)
               clear hb hbox hg
               refine hK.out _ _ ⟨(blk_cell BK277.out 0).trans rfl, (blk_cell BK277.out 1).trans rfl, (blk_cell BK278.out 0).trans rfl, (blk_cell BK278.out 1).trans rfl⟩ (fun hHeld => ?_)
               clear hK K
               refine norm_ (a' := ?_) ?_ ?_
               rotate_left
               ·
                show Act.put _ (some 15) _ = _
                simp only [Act.put, List.setIfInBounds_toArray, List.set_cons_zero, List.set_cons_succ, i64_w, i32_w]
                rfl
               refine one_ (i := 1) (N := some 96) #[true, true, true, false, false, false, false, false, true, false, false] rfl rfl (one_of HT_.out (by kernel_rfl)) (by decide) (fun K hK => ?_)
               refine goes_ Try.func7 (by kernel_rfl) rfl #[.agg #[.slice A0_0 l0_0.length c0_0, .slice A0_1 l0_1.length c0_1]] (by rfl) rfl rfl lU ?_
               with_reducible refine (laws_toArray.calls kj103 _ _ l0_0 _ _ l0_1 t349 t352 _ ?side1 ?side2 ?side3 ?side4 A148.out).mono ?_
               (case side1 => exact cU (Kd.C_below HR0_0.out HB.out))
               (case side2 => exact HC0_0.out)
               (case side3 => exact cU (Kd.C_below HR0_1.out HB.out))
               (case side4 => exact HC0_1.out)
               rintro e w163 ⟨v350, v353, rfl, ho0, ho1, hb⟩
               refine ⟨_, rfl, ?_⟩
               have HO351 := Aside0.mk (Kd.R_lower (Kd.R_new' (Kd.R_new' (Kd.R_new' (Kd.R_new' (Kd.R_new' (Kd.R_new' (Kd.R_new' (Kd.R_new' ho0 (Kd.R_lt (RU HO_301000.out))) (Kd.R_lt (RU HO_301001.out))) (Kd.R_lt (RU HO_308000.out))) (Kd.R_lt (RU HO_308001.out))) (Kd.R_lt (RU HO_315000.out))) (Kd.R_lt (RU HO_315001.out))) (Kd.R_lt (RU HO_323000.out))) (Kd.R_lt (RU HO_323001.out))) (below_size (bS7 HB.out GE277.out GE278.out GE300.out GE307.out GE314.out GE322.out GE368.out)))
               have HO354 := Aside0.mk (Kd.R_lower (Kd.R_new' (Kd.R_new' (Kd.R_new' (Kd.R_new' (Kd.R_new' (Kd.R_new' (Kd.R_new' (Kd.R_new' ho1 (Kd.R_lt (RU HO_301000.out))) (Kd.R_lt (RU HO_301001.out))) (Kd.R_lt (RU HO_308000.out))) (Kd.R_lt (RU HO_308001.out))) (Kd.R_lt (RU HO_315000.out))) (Kd.R_lt (RU HO_315001.out))) (Kd.R_lt (RU HO_323000.out))) (Kd.R_lt (RU HO_323001.out))) (below_size (bS7 HB.out GE277.out GE278.out GE300.out GE307.out GE314.out GE322.out GE368.out)))
               replace HO_301000 := Aside0.mk (Kd.R_mono (Kd.R_told (Kd.R_told (Kd.R_old (RU HO_301000.out) hb) (Kd.R_base ho0)) (Kd.R_base ho1)) (fun _ h_ => h_.1))
               replace HO_301001 := Aside0.mk (Kd.R_mono (Kd.R_told (Kd.R_told (Kd.R_old (RU HO_301001.out) hb) (Kd.R_base ho0)) (Kd.R_base ho1)) (fun _ h_ => h_.1))
               replace HO_308000 := Aside0.mk (Kd.R_mono (Kd.R_told (Kd.R_told (Kd.R_old (RU HO_308000.out) hb) (Kd.R_base ho0)) (Kd.R_base ho1)) (fun _ h_ => h_.1))
               replace HO_308001 := Aside0.mk (Kd.R_mono (Kd.R_told (Kd.R_told (Kd.R_old (RU HO_308001.out) hb) (Kd.R_base ho0)) (Kd.R_base ho1)) (fun _ h_ => h_.1))
               replace HO_315000 := Aside0.mk (Kd.R_mono (Kd.R_told (Kd.R_told (Kd.R_old (RU HO_315000.out) hb) (Kd.R_base ho0)) (Kd.R_base ho1)) (fun _ h_ => h_.1))
               replace HO_315001 := Aside0.mk (Kd.R_mono (Kd.R_told (Kd.R_told (Kd.R_old (RU HO_315001.out) hb) (Kd.R_base ho0)) (Kd.R_base ho1)) (fun _ h_ => h_.1))
               replace HO_323000 := Aside0.mk (Kd.R_mono (Kd.R_told (Kd.R_told (Kd.R_old (RU HO_323000.out) hb) (Kd.R_base ho0)) (Kd.R_base ho1)) (fun _ h_ => h_.1))
               replace HO_323001 := Aside0.mk (Kd.R_mono (Kd.R_told (Kd.R_told (Kd.R_old (RU HO_323001.out) hb) (Kd.R_base ho0)) (Kd.R_base ho1)) (fun _ h_ => h_.1))
               replace BK277 := Aside0.mk (kB BK277.out hb)
               replace BK278 := Aside0.mk (kB BK278.out hb)
               replace BK300 := Aside0.mk (kB BK300.out hb)
               replace BK307 := Aside0.mk (kB BK307.out hb)
               replace BK314 := Aside0.mk (kB BK314.out hb)
               replace BK322 := Aside0.mk (kB BK322.out hb)
               replace BK368 := Aside0.mk (kB BK368.out hb)
               replace HB := Aside0.mk (below_step (bS7 HB.out GE277.out GE278.out GE300.out GE307.out GE314.out GE322.out GE368.out) hb)
               (try clear hb)
               (try clear hb2)
               (try clear hk)
               (try clear hi)
               (try clear ho0)
               (try clear ho1)
               refine hK.out _ _ ⟨(blk_cell BK277.out 0).trans rfl, (blk_cell BK277.out 1).trans rfl, (blk_cell BK278.out 0).trans rfl, (blk_cell BK278.out 1).trans rfl⟩ (fun hHeld => ?_)
               clear hK K
               refine norm_ (a' := ?_) ?_ ?_
               rotate_left
               ·
                show Act.put _ (some 96) _ = _
                simp only [Act.put, List.setIfInBounds_toArray, List.set_cons_zero, List.set_cons_succ, i64_w, i32_w]
                rfl
               refine one_ (i := 3) (N := some 98) #[true, true, true, true, false, false, false, false, true, false, false] rfl rfl (one_of HT_.out (by kernel_rfl)) (by decide) (fun K hK => ?_)
               refine goes_ Try.func7 (by kernel_rfl) rfl #[.agg #[.slice A1_0 l1_0.length c1_0, .slice A1_1 l1_1.length c1_1]] (by rfl) rfl rfl lU ?_
               with_reducible refine (laws_toArray.calls kj103 _ _ l1_0 _ _ l1_1 t355 t358 _ ?side1 ?side2 ?side3 ?side4 A149.out).mono ?_
               (case side1 => exact cU (Kd.C_below HR1_0.out HB.out))
               (case side2 => exact HC1_0.out)
               (case side3 => exact cU (Kd.C_below HR1_1.out HB.out))
               (case side4 => exact HC1_1.out)
               rintro e w164 ⟨v356, v359, rfl, ho0, ho1, hb⟩
               refine ⟨_, rfl, ?_⟩
               have HO357 := Aside0.mk (Kd.R_lower (Kd.R_new' (Kd.R_new' (Kd.R_new' (Kd.R_new' (Kd.R_new' (Kd.R_new' (Kd.R_new' (Kd.R_new' (Kd.R_new' (Kd.R_new' ho0 (Kd.R_lt (RU HO_301000.out))) (Kd.R_lt (RU HO_301001.out))) (Kd.R_lt (RU HO_308000.out))) (Kd.R_lt (RU HO_308001.out))) (Kd.R_lt (RU HO_315000.out))) (Kd.R_lt (RU HO_315001.out))) (Kd.R_lt (RU HO_323000.out))) (Kd.R_lt (RU HO_323001.out))) (Kd.R_lt (RU HO351.out))) (Kd.R_lt (RU HO354.out))) (below_size (bS7 HB.out GE277.out GE278.out GE300.out GE307.out GE314.out GE322.out GE368.out)))
               have HO360 := Aside0.mk (Kd.R_lower (Kd.R_new' (Kd.R_new' (Kd.R_new' (Kd.R_new' (Kd.R_new' (Kd.R_new' (Kd.R_new' (Kd.R_new' (Kd.R_new' (Kd.R_new' ho1 (Kd.R_lt (RU HO_301000.out))) (Kd.R_lt (RU HO_301001.out))) (Kd.R_lt (RU HO_308000.out))) (Kd.R_lt (RU HO_308001.out))) (Kd.R_lt (RU HO_315000.out))) (Kd.R_lt (RU HO_315001.out))) (Kd.R_lt (RU HO_323000.out))) (Kd.R_lt (RU HO_323001.out))) (Kd.R_lt (RU HO351.out))) (Kd.R_lt (RU HO354.out))) (below_size (bS7 HB.out GE277.out GE278.out GE300.out GE307.out GE314.out GE322.out GE368.out)))
               replace HO_301000 := Aside0.mk (Kd.R_mono (Kd.R_told (Kd.R_told (Kd.R_old (RU HO_301000.out) hb) (Kd.R_base ho0)) (Kd.R_base ho1)) (fun _ h_ => h_.1))
               replace HO_301001 := Aside0.mk (Kd.R_mono (Kd.R_told (Kd.R_told (Kd.R_old (RU HO_301001.out) hb) (Kd.R_base ho0)) (Kd.R_base ho1)) (fun _ h_ => h_.1))
               replace HO_308000 := Aside0.mk (Kd.R_mono (Kd.R_told (Kd.R_told (Kd.R_old (RU HO_308000.out) hb) (Kd.R_base ho0)) (Kd.R_base ho1)) (fun _ h_ => h_.1))
               replace HO_308001 := Aside0.mk (Kd.R_mono (Kd.R_told (Kd.R_told (Kd.R_old (RU HO_308001.out) hb) (Kd.R_base ho0)) (Kd.R_base ho1)) (fun _ h_ => h_.1))
               replace HO_315000 := Aside0.mk (Kd.R_mono (Kd.R_told (Kd.R_told (Kd.R_old (RU HO_315000.out) hb) (Kd.R_base ho0)) (Kd.R_base ho1)) (fun _ h_ => h_.1))
               replace HO_315001 := Aside0.mk (Kd.R_mono (Kd.R_told (Kd.R_told (Kd.R_old (RU HO_315001.out) hb) (Kd.R_base ho0)) (Kd.R_base ho1)) (fun _ h_ => h_.1))
               replace HO_323000 := Aside0.mk (Kd.R_mono (Kd.R_told (Kd.R_told (Kd.R_old (RU HO_323000.out) hb) (Kd.R_base ho0)) (Kd.R_base ho1)) (fun _ h_ => h_.1))
               replace HO_323001 := Aside0.mk (Kd.R_mono (Kd.R_told (Kd.R_told (Kd.R_old (RU HO_323001.out) hb) (Kd.R_base ho0)) (Kd.R_base ho1)) (fun _ h_ => h_.1))
               replace HO351 := Aside0.mk (Kd.R_mono (Kd.R_told (Kd.R_told (Kd.R_old (RU HO351.out) hb) (Kd.R_base ho0)) (Kd.R_base ho1)) (fun _ h_ => h_.1))
               replace HO354 := Aside0.mk (Kd.R_mono (Kd.R_told (Kd.R_told (Kd.R_old (RU HO354.out) hb) (Kd.R_base ho0)) (Kd.R_base ho1)) (fun _ h_ => h_.1))
               replace BK277 := Aside0.mk (kB BK277.out hb)
               replace BK278 := Aside0.mk (kB BK278.out hb)
               replace BK300 := Aside0.mk (kB BK300.out hb)
               replace BK307 := Aside0.mk (kB BK307.out hb)
               replace BK314 := Aside0.mk (kB BK314.out hb)
               replace BK322 := Aside0.mk (kB BK322.out hb)
               replace BK368 := Aside0.mk (kB BK368.out hb)
               replace HB := Aside0.mk (below_step (bS7 HB.out GE277.out GE278.out GE300.out GE307.out GE314.out GE322.out GE368.out) hb)
               (try clear hb)
               (try clear hb2)
               (try clear hk)
               (try clear hi)
               (try clear ho0)
               (try clear ho1)
               obtain ⟨Ao165, co165, eo165⟩ := Kd.R_slice HO351.out
               (first | subst eo165 | (injection eo165 with f1_ f2_ f3_; have f4_ := f1_.symm; have f5_ := f3_.symm; clear f1_ f2_ f3_; subst f4_; subst f5_))
               obtain ⟨Ao166, co166, eo166⟩ := Kd.R_slice HO354.out
               (first | subst eo166 | (injection eo166 with f1_ f2_ f3_; have f4_ := f1_.symm; have f5_ := f3_.symm; clear f1_ f2_ f3_; subst f4_; subst f5_))
               obtain ⟨Ao167, co167, eo167⟩ := Kd.R_slice HO357.out
               (first | subst eo167 | (injection eo167 with f1_ f2_ f3_; have f4_ := f1_.symm; have f5_ := f3_.symm; clear f1_ f2_ f3_; subst f4_; subst f5_))
               obtain ⟨Ao168, co168, eo168⟩ := Kd.R_slice HO360.out
               (first | subst eo168 | (injection eo168 with f1_ f2_ f3_; have f4_ := f1_.symm; have f5_ := f3_.symm; clear f1_ f2_ f3_; subst f4_; subst f5_))
               refine hK.out _ _ ⟨(blk_cell BK277.out 0).trans rfl, (blk_cell BK277.out 1).trans rfl, (blk_cell BK278.out 0).trans rfl, (blk_cell BK278.out 1).trans rfl⟩ (fun hHeld => ?_)
               clear hK K
               refine norm_ (a' := ?_) ?_ ?_
               rotate_left
               ·
                show Act.put _ (some 98) _ = _
                simp only [Act.put, List.setIfInBounds_toArray, List.set_cons_zero, List.set_cons_succ, i64_w, i32_w]
                rfl
               refine one_ (i := 4) (N := some 99) #[true, true, true, true, true, false, false, false, true, false, false] rfl rfl (one_of HT_.out (by kernel_rfl)) (by decide) (fun K hK => ?_)
               refine goes_ Try.func15 (by kernel_rfl) rfl #[.agg #[.slice Ao165 t349.length co165, .slice Ao166 t352.length co166], .agg #[.slice Ao167 t355.length co167, .slice Ao168 t358.length co168]] (by rfl) rfl rfl lU ?_
               with_reducible refine (impl_Pick.calls kj103 (fun k_ => some k_ = (.slice Ao165 t349.length co165 : Value).ownBlock) _ _ t349 _ _ t352 (fun k_ => some k_ = (.slice Ao167 t355.length co167 : Value).ownBlock) _ _ t355 _ _ t358 t361 t364 t367 _ ?side1 ?side2 ?side3 ?side4 ?side5 ?side6 A150.out).mono ?_
               (case side1 => exact Kd.R_V (Kd.R_tight rfl (Kd.R_types (Kd.R_types (Kd.R_types (Kd.R_types (Kd.R_types (Kd.R_types (Kd.R_types (HO351.out) BK277.out (by decide)) BK278.out (by decide)) BK300.out (by decide)) BK307.out (by decide)) BK314.out (by decide)) BK322.out (by decide)) BK368.out (by decide))))
               (case side2 => exact cU (Kd.R_reads' HO354.out).2.2)
               (case side3 => exact (Kd.R_reads' HO354.out).2.1)
               (case side4 => exact Kd.R_V (Kd.R_tight rfl (Kd.R_types (Kd.R_types (Kd.R_types (Kd.R_types (Kd.R_types (Kd.R_types (Kd.R_types (HO357.out) BK277.out (by decide)) BK278.out (by decide)) BK300.out (by decide)) BK307.out (by decide)) BK314.out (by decide)) BK322.out (by decide)) BK368.out (by decide))))
               (case side5 => exact cU (Kd.R_reads' HO360.out).2.2)
               (case side6 => exact (Kd.R_reads' HO360.out).2.1)
               rintro e w169 ⟨v362, v365, rfl, ho0, ho1, hb⟩
               refine ⟨_, rfl, ?_⟩
               have HO363 := Aside0.mk (Kd.R_lower (Kd.R_new' (Kd.R_new' (Kd.R_new' (Kd.R_new' (Kd.R_new' (Kd.R_new' (Kd.R_new' (Kd.R_new' (Kd.R_new' (Kd.R_new' (Kd.R_new' (Kd.R_new' (Kd.R_mono (ok' := fun k_ => some k_ ≠ (v365 : Value).ownBlock) ho0 (fun _ hk_ => hk_.2)) (Kd.R_lt (RU HO_301000.out))) (Kd.R_lt (RU HO_301001.out))) (Kd.R_lt (RU HO_308000.out))) (Kd.R_lt (RU HO_308001.out))) (Kd.R_lt (RU HO_315000.out))) (Kd.R_lt (RU HO_315001.out))) (Kd.R_lt (RU HO_323000.out))) (Kd.R_lt (RU HO_323001.out))) (Kd.R_lt (RU HO351.out))) (Kd.R_lt (RU HO354.out))) (Kd.R_lt (RU HO357.out))) (Kd.R_lt (RU HO360.out))) (below_size (bS7 HB.out GE277.out GE278.out GE300.out GE307.out GE314.out GE322.out GE368.out)))
               have HO366 := Aside0.mk (Kd.R_lower (Kd.R_new' (Kd.R_new' (Kd.R_new' (Kd.R_new' (Kd.R_new' (Kd.R_new' (Kd.R_new' (Kd.R_new' (Kd.R_new' (Kd.R_new' (Kd.R_new' (Kd.R_new' (Kd.R_mono (ok' := fun k_ => some k_ ≠ (v362 : Value).ownBlock) ho1 (fun _ hk_ => hk_.2)) (Kd.R_lt (RU HO_301000.out))) (Kd.R_lt (RU HO_301001.out))) (Kd.R_lt (RU HO_308000.out))) (Kd.R_lt (RU HO_308001.out))) (Kd.R_lt (RU HO_315000.out))) (Kd.R_lt (RU HO_315001.out))) (Kd.R_lt (RU HO_323000.out))) (Kd.R_lt (RU HO_323001.out))) (Kd.R_lt (RU HO351.out))) (Kd.R_lt (RU HO354.out))) (Kd.R_lt (RU HO357.out))) (Kd.R_lt (RU HO360.out))) (below_size (bS7 HB.out GE277.out GE278.out GE300.out GE307.out GE314.out GE322.out GE368.out)))
               replace HO_301000 := Aside0.mk (Kd.R_mono (Kd.R_told (Kd.R_told (Kd.R_old (RU HO_301000.out) hb) (Kd.R_base ho0)) (Kd.R_base ho1)) (fun _ h_ => h_.1))
               replace HO_301001 := Aside0.mk (Kd.R_mono (Kd.R_told (Kd.R_told (Kd.R_old (RU HO_301001.out) hb) (Kd.R_base ho0)) (Kd.R_base ho1)) (fun _ h_ => h_.1))
               replace HO_308000 := Aside0.mk (Kd.R_mono (Kd.R_told (Kd.R_told (Kd.R_old (RU HO_308000.out) hb) (Kd.R_base ho0)) (Kd.R_base ho1)) (fun _ h_ => h_.1))
               replace HO_308001 := Aside0.mk (Kd.R_mono (Kd.R_told (Kd.R_told (Kd.R_old (RU HO_308001.out) hb) (Kd.R_base ho0)) (Kd.R_base ho1)) (fun _ h_ => h_.1))
               replace HO_315000 := Aside0.mk (Kd.R_mono (Kd.R_told (Kd.R_told (Kd.R_old (RU HO_315000.out) hb) (Kd.R_base ho0)) (Kd.R_base ho1)) (fun _ h_ => h_.1))
               replace HO_315001 := Aside0.mk (Kd.R_mono (Kd.R_told (Kd.R_told (Kd.R_old (RU HO_315001.out) hb) (Kd.R_base ho0)) (Kd.R_base ho1)) (fun _ h_ => h_.1))
               replace HO_323000 := Aside0.mk (Kd.R_mono (Kd.R_told (Kd.R_told (Kd.R_old (RU HO_323000.out) hb) (Kd.R_base ho0)) (Kd.R_base ho1)) (fun _ h_ => h_.1))
               replace HO_323001 := Aside0.mk (Kd.R_mono (Kd.R_told (Kd.R_told (Kd.R_old (RU HO_323001.out) hb) (Kd.R_base ho0)) (Kd.R_base ho1)) (fun _ h_ => h_.1))
               replace HO351 := Aside0.mk (Kd.R_mono (Kd.R_told (Kd.R_told (Kd.R_old (RU HO351.out) hb) (Kd.R_base ho0)) (Kd.R_base ho1)) (fun _ h_ => h_.1))
               replace HO354 := Aside0.mk (Kd.R_mono (Kd.R_told (Kd.R_told (Kd.R_old (RU HO354.out) hb) (Kd.R_base ho0)) (Kd.R_base ho1)) (fun _ h_ => h_.1))
               replace HO357 := Aside0.mk (Kd.R_mono (Kd.R_told (Kd.R_told (Kd.R_old (RU HO357.out) hb) (Kd.R_base ho0)) (Kd.R_base ho1)) (fun _ h_ => h_.1))
               replace HO360 := Aside0.mk (Kd.R_mono (Kd.R_told (Kd.R_told (Kd.R_old (RU HO360.out) hb) (Kd.R_base ho0)) (Kd.R_base ho1)) (fun _ h_ => h_.1))
               replace BK277 := Aside0.mk (kB BK277.out hb)
               replace BK278 := Aside0.mk (kB BK278.out hb)
               replace BK300 := Aside0.mk (kB BK300.out hb)
               replace BK307 := Aside0.mk (kB BK307.out hb)
               replace BK314 := Aside0.mk (kB BK314.out hb)
               replace BK322 := Aside0.mk (kB BK322.out hb)
               replace BK368 := Aside0.mk (kB BK368.out hb)
               replace HB := Aside0.mk (below_step (bS7 HB.out GE277.out GE278.out GE300.out GE307.out GE314.out GE322.out GE368.out) hb)
               (try clear hb)
               (try clear hb2)
               (try clear hk)
               (try clear hi)
               (try clear ho0)
               (try clear ho1)
               refine hK.out _ _ ⟨(blk_cell BK277.out 0).trans rfl, (blk_cell BK277.out 1).trans rfl, (blk_cell BK278.out 0).trans rfl, (blk_cell BK278.out 1).trans rfl⟩ (fun hHeld => ?_)
               clear hK K
               refine norm_ (a' := ?_) ?_ ?_
               rotate_left
               ·
                show Act.put _ (some 99) _ = _
                simp only [Act.put, List.setIfInBounds_toArray, List.set_cons_zero, List.set_cons_succ, i64_w, i32_w]
                rfl
               refine pure_ (i := 5) (N := some 94) (v := ?_) (a' := ?_) #[true, true, true, true, true, true, false, false, true, false, false] rfl rfl (any_of HT_.out (by kernel_rfl)) (fun _ _ _ h => h) (Or.inl ⟨by rfl, ?_⟩) ?_ ?_
               rotate_left
               ·
                intro w'
                go_simp
                with_reducible rfl
               rotate_left
               ·
                simp only [Act.put, List.setIfInBounds_toArray, List.set_cons_zero, List.set_cons_succ, i64_w, i32_w]
                rfl
               refine pure_ (i := 6) (N := some 100) (v := ?_) (a' := ?_) #[true, true, true, true, true, true, true, false, true, false, false] rfl rfl (any_of HT_.out (by kernel_rfl)) (fun _ _ _ h => h) (Or.inl ⟨by rfl, ?_⟩) ?_ ?_
               rotate_left
               ·
                intro w'
                go_simp
                with_reducible rfl
               rotate_left
               ·
                simp only [Act.put, List.setIfInBounds_toArray, List.set_cons_zero, List.set_cons_succ, i64_w, i32_w]
                rfl
               refine pure_ (i := 7) (N := some 101) (v := ?_) (a' := ?_) #[true, true, true, true, true, true, true, true, true, false, false] rfl rfl (any_of HT_.out (by kernel_rfl)) (fun _ _ _ h => h) (Or.inl ⟨by rfl, ?_⟩) ?_ ?_
               rotate_left
               ·
                intro w'
                go_simp
                with_reducible rfl
               rotate_left
               ·
                simp only [Act.put, List.setIfInBounds_toArray, List.set_cons_zero, List.set_cons_succ, i64_w, i32_w]
                rfl
               exact norm_ (by simp only [putAll, Act.put, List.setIfInBounds_toArray, List.set_cons_zero, List.set_cons_succ]) (hCont (.slice Ao165 t349.length co165, .slice Ao166 t352.length co166, .slice Ao167 t355.length co167, .slice Ao168 t358.length co168, v362, v365, gb368) _ ⟨hHeld, (by refine RU ?_; exact Kd.R_mono HO351.out (fun _ hk => ⟨hk.1.1.1.1.1.1.1.1.1.1.1.1, ⟨hk.1.1.1.2, ⟨hk.1.1.2, ⟨hk.1.2, ⟨hk.2, ⟨hk.1.1.1.1.1.1.1.1.1.1.1.2, ⟨hk.1.1.1.1.1.1.1.1.1.1.2, ⟨hk.1.1.1.1.1.1.1.1.1.2, ⟨hk.1.1.1.1.1.1.1.1.2, ⟨hk.1.1.1.1.1.1.1.2, ⟨hk.1.1.1.1.1.1.2, ⟨hk.1.1.1.1.1.2, hk.1.1.1.1.2⟩⟩⟩⟩⟩⟩⟩⟩⟩⟩⟩⟩)), (by refine RU ?_; exact Kd.R_mono HO354.out (fun _ hk => ⟨hk.1.1.1.1.1.1.1.1.1.1.1.1, ⟨hk.1.1.1.2, ⟨hk.1.1.2, ⟨hk.1.2, ⟨hk.2, ⟨hk.1.1.1.1.1.1.1.1.1.1.1.2, ⟨hk.1.1.1.1.1.1.1.1.1.1.2, ⟨hk.1.1.1.1.1.1.1.1.1.2, ⟨hk.1.1.1.1.1.1.1.1.2, ⟨hk.1.1.1.1.1.1.1.2, ⟨hk.1.1.1.1.1.1.2, ⟨hk.1.1.1.1.1.2, hk.1.1.1.1.2⟩⟩⟩⟩⟩⟩⟩⟩⟩⟩⟩⟩)), (by refine RU ?_; exact Kd.R_mono HO357.out (fun _ hk => ⟨hk.1.1.1.2, ⟨hk.1.1.2, ⟨hk.1.1.1.1.1.1.1.1.1.1.1.1, ⟨hk.1.2, ⟨hk.2, ⟨hk.1.1.1.1.1.1.1.1.1.1.1.2, ⟨hk.1.1.1.1.1.1.1.1.1.1.2, ⟨hk.1.1.1.1.1.1.1.1.1.2, ⟨hk.1.1.1.1.1.1.1.1.2, ⟨hk.1.1.1.1.1.1.1.2, ⟨hk.1.1.1.1.1.1.2, ⟨hk.1.1.1.1.1.2, hk.1.1.1.1.2⟩⟩⟩⟩⟩⟩⟩⟩⟩⟩⟩⟩)), (by refine RU ?_; exact Kd.R_mono HO360.out (fun _ hk => ⟨hk.1.1.1.2, ⟨hk.1.1.2, ⟨hk.1.1.1.1.1.1.1.1.1.1.1.1, ⟨hk.1.2, ⟨hk.2, ⟨hk.1.1.1.1.1.1.1.1.1.1.1.2, ⟨hk.1.1.1.1.1.1.1.1.1.1.2, ⟨hk.1.1.1.1.1.1.1.1.1.2, ⟨hk.1.1.1.1.1.1.1.1.2, ⟨hk.1.1.1.1.1.1.1.2, ⟨hk.1.1.1.1.1.1.2, ⟨hk.1.1.1.1.1.2, hk.1.1.1.1.2⟩⟩⟩⟩⟩⟩⟩⟩⟩⟩⟩⟩)), (by refine RU ?_; exact Kd.R_mono HO363.out (fun _ hk => ⟨hk.1.1.1.2, ⟨hk.1.1.2, ⟨hk.1.2, ⟨hk.2, ⟨hk.1.1.1.1.1.1.1.1.1.1.1.1, ⟨hk.1.1.1.1.1.1.1.1.1.1.1.2, ⟨hk.1.1.1.1.1.1.1.1.1.1.2, ⟨hk.1.1.1.1.1.1.1.1.1.2, ⟨hk.1.1.1.1.1.1.1.1.2, ⟨hk.1.1.1.1.1.1.1.2, ⟨hk.1.1.1.1.1.1.2, ⟨hk.1.1.1.1.1.2, hk.1.1.1.1.2⟩⟩⟩⟩⟩⟩⟩⟩⟩⟩⟩⟩)), (by refine RU ?_; exact Kd.R_mono HO366.out (fun _ hk => ⟨hk.1.1.1.2, ⟨hk.1.1.2, ⟨hk.1.2, ⟨hk.2, ⟨hk.1.1.1.1.1.1.1.1.1.1.1.1, ⟨hk.1.1.1.1.1.1.1.1.1.1.1.2, ⟨hk.1.1.1.1.1.1.1.1.1.1.2, ⟨hk.1.1.1.1.1.1.1.1.1.2, ⟨hk.1.1.1.1.1.1.1.1.2, ⟨hk.1.1.1.1.1.1.1.2, ⟨hk.1.1.1.1.1.1.2, ⟨hk.1.1.1.1.1.2, hk.1.1.1.1.2⟩⟩⟩⟩⟩⟩⟩⟩⟩⟩⟩⟩)), (by refine RU ?_; exact Kd.R_mono HO_301000.out (fun _ hk => ⟨hk.1.1.1.1.1.2, ⟨hk.1.1.1.1.2, ⟨hk.1.1.1.2, ⟨hk.1.1.2, ⟨hk.1.2, ⟨hk.2, ⟨hk.1.1.1.1.1.1.1, ⟨hk.1.1.1.1.1.1.2.1, ⟨hk.1.1.1.1.1.1.2.2.1, ⟨hk.1.1.1.1.1.1.2.2.2.1, ⟨hk.1.1.1.1.1.1.2.2.2.2.1, ⟨hk.1.1.1.1.1.1.2.2.2.2.2.1, hk.1.1.1.1.1.1.2.2.2.2.2.2⟩⟩⟩⟩⟩⟩⟩⟩⟩⟩⟩⟩)), (by refine RU ?_; exact Kd.R_mono HO_301001.out (fun _ hk => ⟨hk.1.1.1.1.1.2, ⟨hk.1.1.1.1.2, ⟨hk.1.1.1.2, ⟨hk.1.1.2, ⟨hk.1.2, ⟨hk.2, ⟨hk.1.1.1.1.1.1.1, ⟨hk.1.1.1.1.1.1.2.1, ⟨hk.1.1.1.1.1.1.2.2.1, ⟨hk.1.1.1.1.1.1.2.2.2.1, ⟨hk.1.1.1.1.1.1.2.2.2.2.1, ⟨hk.1.1.1.1.1.1.2.2.2.2.2.1, hk.1.1.1.1.1.1.2.2.2.2.2.2⟩⟩⟩⟩⟩⟩⟩⟩⟩⟩⟩⟩)), (by refine RU ?_; exact Kd.R_mono HO_308000.out (fun _ hk => ⟨hk.1.1.1.1.1.2, ⟨hk.1.1.1.1.2, ⟨hk.1.1.1.2, ⟨hk.1.1.2, ⟨hk.1.2, ⟨hk.2, ⟨hk.1.1.1.1.1.1.1, ⟨hk.1.1.1.1.1.1.2.1, ⟨hk.1.1.1.1.1.1.2.2.1, ⟨hk.1.1.1.1.1.1.2.2.2.1, ⟨hk.1.1.1.1.1.1.2.2.2.2.1, ⟨hk.1.1.1.1.1.1.2.2.2.2.2.1, hk.1.1.1.1.1.1.2.2.2.2.2.2⟩⟩⟩⟩⟩⟩⟩⟩⟩⟩⟩⟩)), (by refine RU ?_; exact Kd.R_mono HO_308001.out (fun _ hk => ⟨hk.1.1.1.1.1.2, ⟨hk.1.1.1.1.2, ⟨hk.1.1.1.2, ⟨hk.1.1.2, ⟨hk.1.2, ⟨hk.2, ⟨hk.1.1.1.1.1.1.1, ⟨hk.1.1.1.1.1.1.2.1, ⟨hk.1.1.1.1.1.1.2.2.1, ⟨hk.1.1.1.1.1.1.2.2.2.1, ⟨hk.1.1.1.1.1.1.2.2.2.2.1, ⟨hk.1.1.1.1.1.1.2.2.2.2.2.1, hk.1.1.1.1.1.1.2.2.2.2.2.2⟩⟩⟩⟩⟩⟩⟩⟩⟩⟩⟩⟩)), (by refine RU ?_; exact Kd.R_mono HO_315000.out (fun _ hk => ⟨hk.1.1.1.1.1.2, ⟨hk.1.1.1.1.2, ⟨hk.1.1.1.2, ⟨hk.1.1.2, ⟨hk.1.2, ⟨hk.2, ⟨hk.1.1.1.1.1.1.1, ⟨hk.1.1.1.1.1.1.2.1, ⟨hk.1.1.1.1.1.1.2.2.1, ⟨hk.1.1.1.1.1.1.2.2.2.1, ⟨hk.1.1.1.1.1.1.2.2.2.2.1, ⟨hk.1.1.1.1.1.1.2.2.2.2.2.1, hk.1.1.1.1.1.1.2.2.2.2.2.2⟩⟩⟩⟩⟩⟩⟩⟩⟩⟩⟩⟩)), (by refine RU ?_; exact Kd.R_mono HO_315001.out (fun _ hk => ⟨hk.1.1.1.1.1.2, ⟨hk.1.1.1.1.2, ⟨hk.1.1.1.2, ⟨hk.1.1.2, ⟨hk.1.2, ⟨hk.2, ⟨hk.1.1.1.1.1.1.1, ⟨hk.1.1.1.1.1.1.2.1, ⟨hk.1.1.1.1.1.1.2.2.1, ⟨hk.1.1.1.1.1.1.2.2.2.1, ⟨hk.1.1.1.1.1.1.2.2.2.2.1, ⟨hk.1.1.1.1.1.1.2.2.2.2.2.1, hk.1.1.1.1.1.1.2.2.2.2.2.2⟩⟩⟩⟩⟩⟩⟩⟩⟩⟩⟩⟩)), (by refine RU ?_; exact Kd.R_mono HO_323000.out (fun _ hk => ⟨hk.1.1.1.1.1.2, ⟨hk.1.1.1.1.2, ⟨hk.1.1.1.2, ⟨hk.1.1.2, ⟨hk.1.2, ⟨hk.2, ⟨hk.1.1.1.1.1.1.1, ⟨hk.1.1.1.1.1.1.2.1, ⟨hk.1.1.1.1.1.1.2.2.1, ⟨hk.1.1.1.1.1.1.2.2.2.1, ⟨hk.1.1.1.1.1.1.2.2.2.2.1, ⟨hk.1.1.1.1.1.1.2.2.2.2.2.1, hk.1.1.1.1.1.1.2.2.2.2.2.2⟩⟩⟩⟩⟩⟩⟩⟩⟩⟩⟩⟩)), (by refine RU ?_; exact Kd.R_mono HO_323001.out (fun _ hk => ⟨hk.1.1.1.1.1.2, ⟨hk.1.1.1.1.2, ⟨hk.1.1.1.2, ⟨hk.1.1.2, ⟨hk.1.2, ⟨hk.2, ⟨hk.1.1.1.1.1.1.1, ⟨hk.1.1.1.1.1.1.2.1, ⟨hk.1.1.1.1.1.1.2.2.1, ⟨hk.1.1.1.1.1.1.2.2.2.1, ⟨hk.1.1.1.1.1.1.2.2.2.2.1, ⟨hk.1.1.1.1.1.1.2.2.2.2.2.1, hk.1.1.1.1.1.1.2.2.2.2.2.2⟩⟩⟩⟩⟩⟩⟩⟩⟩⟩⟩⟩)), (kU BK277.out), (kU BK278.out), (kU BK300.out), (kU BK307.out), (kU BK314.out), (kU BK322.out), (kU BK368.out), GW368.out, GE368.out, NB277_368.out, NB368_277.out, NB278_368.out, NB368_278.out, NB300_368.out, NB368_300.out, NB307_368.out, NB368_307.out, NB314_368.out, NB368_314.out, NB322_368.out, NB368_322.out, (bS7 HB.out GE277.out GE278.out GE300.out GE307.out GE314.out GE322.out GE368.out)⟩)
             rintro ⟨v350, v353, v356, v359, v362, v365, gb368⟩ w170 ⟨hS_, h0_, h1_, h2_, h3_, h4_, h5_, h6_, h7_, h8_, h9_, h10_, h11_, h12_, h13_, h14_, h15_, h16_, h17_, h18_, h19_, h20_, h21_, h22_, h23_, h24_, h25_, h26_, h27_, h28_, h29_, h30_, h31_, h32_, h33_, h34_, h35_⟩
             have n0_ : Aside0 (Kd.R (Kd.int .i64) 3 w170 w.heap.size (fun k_ => some k_ ≠ (v353 : Value).ownBlock ∧ some k_ ≠ (v356 : Value).ownBlock ∧ some k_ ≠ (v359 : Value).ownBlock ∧ some k_ ≠ (v362 : Value).ownBlock ∧ some k_ ≠ (v365 : Value).ownBlock ∧ some k_ ≠ (.slice Ao43 t293.length co43 : Value).ownBlock ∧ some k_ ≠ (.slice Ao45 t296.length co45 : Value).ownBlock ∧ some k_ ≠ (.slice Ao51 t339.length co51 : Value).ownBlock ∧ some k_ ≠ (.slice Ao56 t340.length co56 : Value).ownBlock ∧ some k_ ≠ (.slice Ao61 t342.length co61 : Value).ownBlock ∧ some k_ ≠ (.slice Ao67 t343.length co67 : Value).ownBlock ∧ some k_ ≠ (.slice Ao73 t315.length co73 : Value).ownBlock ∧ some k_ ≠ (.slice Ao80 t318.length co80 : Value).ownBlock) v350 t349) := ⟨h0_⟩
             have n1_ : Aside0 (Kd.R (Kd.int .i64) 3 w170 w.heap.size (fun k_ => some k_ ≠ (v350 : Value).ownBlock ∧ some k_ ≠ (v356 : Value).ownBlock ∧ some k_ ≠ (v359 : Value).ownBlock ∧ some k_ ≠ (v362 : Value).ownBlock ∧ some k_ ≠ (v365 : Value).ownBlock ∧ some k_ ≠ (.slice Ao43 t293.length co43 : Value).ownBlock ∧ some k_ ≠ (.slice Ao45 t296.length co45 : Value).ownBlock ∧ some k_ ≠ (.slice Ao51 t339.length co51 : Value).ownBlock ∧ some k_ ≠ (.slice Ao56 t340.length co56 : Value).ownBlock ∧ some k_ ≠ (.slice Ao61 t342.length co61 : Value).ownBlock ∧ some k_ ≠ (.slice Ao67 t343.length co67 : Value).ownBlock ∧ some k_ ≠ (.slice Ao73 t315.length co73 : Value).ownBlock ∧ some k_ ≠ (.slice Ao80 t318.length co80 : Value).ownBlock) v353 t352) := ⟨h1_⟩
             have n2_ : Aside0 (Kd.R (Kd.int .i64) 3 w170 w.heap.size (fun k_ => some k_ ≠ (v350 : Value).ownBlock ∧ some k_ ≠ (v353 : Value).ownBlock ∧ some k_ ≠ (v359 : Value).ownBlock ∧ some k_ ≠ (v362 : Value).ownBlock ∧ some k_ ≠ (v365 : Value).ownBlock ∧ some k_ ≠ (.slice Ao43 t293.length co43 : Value).ownBlock ∧ some k_ ≠ (.slice Ao45 t296.length co45 : Value).ownBlock ∧ some k_ ≠ (.slice Ao51 t339.length co51 : Value).ownBlock ∧ some k_ ≠ (.slice Ao56 t340.length co56 : Value).ownBlock ∧ some k_ ≠ (.slice Ao61 t342.length co61 : Value).ownBlock ∧ some k_ ≠ (.slice Ao67 t343.length co67 : Value).ownBlock ∧ some k_ ≠ (.slice Ao73 t315.length co73 : Value).ownBlock ∧ some k_ ≠ (.slice Ao80 t318.length co80 : Value).ownBlock) v356 t355) := ⟨h2_⟩
             have n3_ : Aside0 (Kd.R (Kd.int .i64) 3 w170 w.heap.size (fun k_ => some k_ ≠ (v350 : Value).ownBlock ∧ some k_ ≠ (v353 : Value).ownBlock ∧ some k_ ≠ (v356 : Value).ownBlock ∧ some k_ ≠ (v362 : Value).ownBlock ∧ some k_ ≠ (v365 : Value).ownBlock ∧ some k_ ≠ (.slice Ao43 t293.length co43 : Value).ownBlock ∧ some k_ ≠ (.slice Ao45 t296.length co45 : Value).ownBlock ∧ some k_ ≠ (.slice Ao51 t339.length co51 : Value).ownBlock ∧ some k_ ≠ (.slice Ao56 t340.length co56 : Value).ownBlock ∧ some k_ ≠ (.slice Ao61 t342.length co61 : Value).ownBlock ∧ some k_ ≠ (.slice Ao67 t343.length co67 : Value).ownBlock ∧ some k_ ≠ (.slice Ao73 t315.length co73 : Value).ownBlock ∧ some k_ ≠ (.slice Ao80 t318.length co80 : Value).ownBlock) v359 t358) := ⟨h3_⟩
             have n4_ : Aside0 (Kd.R (Kd.int .i64) 3 w170 w.heap.size (fun k_ => some k_ ≠ (v350 : Value).ownBlock ∧ some k_ ≠ (v353 : Value).ownBlock ∧ some k_ ≠ (v356 : Value).ownBlock ∧ some k_ ≠ (v359 : Value).ownBlock ∧ some k_ ≠ (v365 : Value).ownBlock ∧ some k_ ≠ (.slice Ao43 t293.length co43 : Value).ownBlock ∧ some k_ ≠ (.slice Ao45 t296.length co45 : Value).ownBlock ∧ some k_ ≠ (.slice Ao51 t339.length co51 : Value).ownBlock ∧ some k_ ≠ (.slice Ao56 t340.length co56 : Value).ownBlock ∧ some k_ ≠ (.slice Ao61 t342.length co61 : Value).ownBlock ∧ some k_ ≠ (.slice Ao67 t343.length co67 : Value).ownBlock ∧ some k_ ≠ (.slice Ao73 t315.length co73 : Value).ownBlock ∧ some k_ ≠ (.slice Ao80 t318.length co80 : Value).ownBlock) v362 t361) := ⟨h4_⟩
             have n5_ : Aside0 (Kd.R (Kd.int .i64) 3 w170 w.heap.size (fun k_ => some k_ ≠ (v350 : Value).ownBlock ∧ some k_ ≠ (v353 : Value).ownBlock ∧ some k_ ≠ (v356 : Value).ownBlock ∧ some k_ ≠ (v359 : Value).ownBlock ∧ some k_ ≠ (v362 : Value).ownBlock ∧ some k_ ≠ (.slice Ao43 t293.length co43 : Value).ownBlock ∧ some k_ ≠ (.slice Ao45 t296.length co45 : Value).ownBlock ∧ some k_ ≠ (.slice Ao51 t339.length co51 : Value).ownBlock ∧ some k_ ≠ (.slice Ao56 t340.length co56 : Value).ownBlock ∧ some k_ ≠ (.slice Ao61 t342.length co61 : Value).ownBlock ∧ some k_ ≠ (.slice Ao67 t343.length co67 : Value).ownBlock ∧ some k_ ≠ (.slice Ao73 t315.length co73 : Value).ownBlock ∧ some k_ ≠ (.slice Ao80 t318.length co80 : Value).ownBlock) v365 t364) := ⟨h5_⟩
             have n6_ : Aside0 (Kd.R (Kd.int .i64) 3 w170 w.heap.size (fun k_ => some k_ ≠ (v350 : Value).ownBlock ∧ some k_ ≠ (v353 : Value).ownBlock ∧ some k_ ≠ (v356 : Value).ownBlock ∧ some k_ ≠ (v359 : Value).ownBlock ∧ some k_ ≠ (v362 : Value).ownBlock ∧ some k_ ≠ (v365 : Value).ownBlock ∧ some k_ ≠ (.slice Ao45 t296.length co45 : Value).ownBlock ∧ some k_ ≠ (.slice Ao51 t339.length co51 : Value).ownBlock ∧ some k_ ≠ (.slice Ao56 t340.length co56 : Value).ownBlock ∧ some k_ ≠ (.slice Ao61 t342.length co61 : Value).ownBlock ∧ some k_ ≠ (.slice Ao67 t343.length co67 : Value).ownBlock ∧ some k_ ≠ (.slice Ao73 t315.length co73 : Value).ownBlock ∧ some k_ ≠ (.slice Ao80 t318.length co80 : Value).ownBlock) (.slice Ao43 t293.length co43) t293) := ⟨h6_⟩
             have n7_ : Aside0 (Kd.R (Kd.int .i64) 3 w170 w.heap.size (fun k_ => some k_ ≠ (v350 : Value).ownBlock ∧ some k_ ≠ (v353 : Value).ownBlock ∧ some k_ ≠ (v356 : Value).ownBlock ∧ some k_ ≠ (v359 : Value).ownBlock ∧ some k_ ≠ (v362 : Value).ownBlock ∧ some k_ ≠ (v365 : Value).ownBlock ∧ some k_ ≠ (.slice Ao43 t293.length co43 : Value).ownBlock ∧ some k_ ≠ (.slice Ao51 t339.length co51 : Value).ownBlock ∧ some k_ ≠ (.slice Ao56 t340.length co56 : Value).ownBlock ∧ some k_ ≠ (.slice Ao61 t342.length co61 : Value).ownBlock ∧ some k_ ≠ (.slice Ao67 t343.length co67 : Value).ownBlock ∧ some k_ ≠ (.slice Ao73 t315.length co73 : Value).ownBlock ∧ some k_ ≠ (.slice Ao80 t318.length co80 : Value).ownBlock) (.slice Ao45 t296.length co45) t296) := ⟨h7_⟩
             have n8_ : Aside0 (Kd.R (Kd.int .i64) 3 w170 w.heap.size (fun k_ => some k_ ≠ (v350 : Value).ownBlock ∧ some k_ ≠ (v353 : Value).ownBlock ∧ some k_ ≠ (v356 : Value).ownBlock ∧ some k_ ≠ (v359 : Value).ownBlock ∧ some k_ ≠ (v362 : Value).ownBlock ∧ some k_ ≠ (v365 : Value).ownBlock ∧ some k_ ≠ (.slice Ao43 t293.length co43 : Value).ownBlock ∧ some k_ ≠ (.slice Ao45 t296.length co45 : Value).ownBlock ∧ some k_ ≠ (.slice Ao56 t340.length co56 : Value).ownBlock ∧ some k_ ≠ (.slice Ao61 t342.length co61 : Value).ownBlock ∧ some k_ ≠ (.slice Ao67 t343.length co67 : Value).ownBlock ∧ some k_ ≠ (.slice Ao73 t315.length co73 : Value).ownBlock ∧ some k_ ≠ (.slice Ao80 t318.length co80 : Value).ownBlock) (.slice Ao51 t339.length co51) t339) := ⟨h8_⟩
             have n9_ : Aside0 (Kd.R (Kd.int .i64) 3 w170 w.heap.size (fun k_ => some k_ ≠ (v350 : Value).ownBlock ∧ some k_ ≠ (v353 : Value).ownBlock ∧ some k_ ≠ (v356 : Value).ownBlock ∧ some k_ ≠ (v359 : Value).ownBlock ∧ some k_ ≠ (v362 : Value).ownBlock ∧ some k_ ≠ (v365 : Value).ownBlock ∧ some k_ ≠ (.slice Ao43 t293.length co43 : Value).ownBlock ∧ some k_ ≠ (.slice Ao45 t296.length co45 : Value).ownBlock ∧ some k_ ≠ (.slice Ao51 t339.length co51 : Value).ownBlock ∧ some k_ ≠ (.slice Ao61 t342.length co61 : Value).ownBlock ∧ some k_ ≠ (.slice Ao67 t343.length co67 : Value).ownBlock ∧ some k_ ≠ (.slice Ao73 t315.length co73 : Value).ownBlock ∧ some k_ ≠ (.slice Ao80 t318.length co80 : Value).ownBlock) (.slice Ao56 t340.length co56) t340) := ⟨h9_⟩
             have n10_ : Aside0 (Kd.R (Kd.int .i64) 3 w170 w.heap.size (fun k_ => some k_ ≠ (v350 : Value).ownBlock ∧ some k_ ≠ (v353 : Value).ownBlock ∧ some k_ ≠ (v356 : Value).ownBlock ∧ some k_ ≠ (v359 : Value).ownBlock ∧ some k_ ≠ (v362 : Value).ownBlock ∧ some k_ ≠ (v365 : Value).ownBlock ∧ some k_ ≠ (.slice Ao43 t293.length co43 : Value).ownBlock ∧ some k_ ≠ (.slice Ao45 t296.length co45 : Value).ownBlock ∧ some k_ ≠ (.slice Ao51 t339.length co51 : Value).ownBlock ∧ some k_ ≠ (.slice Ao56 t340.length co56 : Value).ownBlock ∧ some k_ ≠ (.slice Ao67 t343.length co67 : Value).ownBlock ∧ some k_ ≠ (.slice Ao73 t315.length co73 : Value).ownBlock ∧ some k_ ≠ (.slice Ao80 t318.length co80 : Value).ownBlock) (.slice Ao61 t342.length co61) t342) := ⟨h10_⟩
             have n11_ : Aside0 (Kd.R (Kd.int .i64) 3 w170 w.heap.size (fun k_ => some k_ ≠ (v350 : Value).ownBlock ∧ some k_ ≠ (v353 : Value).ownBlock ∧ some k_ ≠ (v356 : Value).ownBlock ∧ some k_ ≠ (v359 : Value).ownBlock ∧ some k_ ≠ (v362 : Value).ownBlock ∧ some k_ ≠ (v365 : Value).ownBlock ∧ some k_ ≠ (.slice Ao43 t293.length co43 : Value).ownBlock ∧ some k_ ≠ (.slice Ao45 t296.length co45 : Value).ownBlock ∧ some k_ ≠ (.slice Ao51 t339.length co51 : Value).ownBlock ∧ some k_ ≠ (.slice Ao56 t340.length co56 : Value).ownBlock ∧ some k_ ≠ (.slice Ao61 t342.length co61 : Value).ownBlock ∧ some k_ ≠ (.slice Ao73 t315.length co73 : Value).ownBlock ∧ some k_ ≠ (.slice Ao80 t318.length co80 : Value).ownBlock) (.slice Ao67 t343.length co67) t343) := ⟨h11_⟩
             have n12_ : Aside0 (Kd.R (Kd.int .i64) 3 w170 w.heap.size (fun k_ => some k_ ≠ (v350 : Value).ownBlock ∧ some k_ ≠ (v353 : Value).ownBlock ∧ some k_ ≠ (v356 : Value).ownBlock ∧ some k_ ≠ (v359 : Value).ownBlock ∧ some k_ ≠ (v362 : Value).ownBlock ∧ some k_ ≠ (v365 : Value).ownBlock ∧ some k_ ≠ (.slice Ao43 t293.length co43 : Value).ownBlock ∧ some k_ ≠ (.slice Ao45 t296.length co45 : Value).ownBlock ∧ some k_ ≠ (.slice Ao51 t339.length co51 : Value).ownBlock ∧ some k_ ≠ (.slice Ao56 t340.length co56 : Value).ownBlock ∧ some k_ ≠ (.slice Ao61 t342.length co61 : Value).ownBlock ∧ some k_ ≠ (.slice Ao67 t343.length co67 : Value).ownBlock ∧ some k_ ≠ (.slice Ao80 t318.length co80 : Value).ownBlock) (.slice Ao73 t315.length co73) t346) := ⟨h12_⟩
             have n13_ : Aside0 (Kd.R (Kd.int .i64) 3 w170 w.heap.size (fun k_ => some k_ ≠ (v350 : Value).ownBlock ∧ some k_ ≠ (v353 : Value).ownBlock ∧ some k_ ≠ (v356 : Value).ownBlock ∧ some k_ ≠ (v359 : Value).ownBlock ∧ some k_ ≠ (v362 : Value).ownBlock ∧ some k_ ≠ (v365 : Value).ownBlock ∧ some k_ ≠ (.slice Ao43 t293.length co43 : Value).ownBlock ∧ some k_ ≠ (.slice Ao45 t296.length co45 : Value).ownBlock ∧ some k_ ≠ (.slice Ao51 t339.length co51 : Value).ownBlock ∧ some k_ ≠ (.slice Ao56 t340.length co56 : Value).ownBlock ∧ some k_ ≠ (.slice Ao61 t342.length co61 : Value).ownBlock ∧ some k_ ≠ (.slice Ao67 t343.length co67 : Value).ownBlock ∧ some k_ ≠ (.slice Ao73 t315.length co73 : Value).ownBlock) (.slice Ao80 t318.length co80) t347) := ⟨h13_⟩
             have n14_ : Aside0 (w170.heap[gb277]? = some (.cells #[.slice A0_0 l0_0.length c0_0, .slice A0_1 l0_1.length c0_1] 24 (0, 0))) := ⟨h14_⟩
             have n15_ : Aside0 (w170.heap[gb278]? = some (.cells #[.slice A1_0 l1_0.length c1_0, .slice A1_1 l1_1.length c1_1] 24 (0, 0))) := ⟨h15_⟩
             have n16_ : Aside0 (w170.heap[gb300]? = some (.cells #[.slice Ao43 t293.length co43, .slice Ao45 t296.length co45] 28 (0, 0))) := ⟨h16_⟩
             have n17_ : Aside0 (w170.heap[gb307]? = some (.cells #[.slice Ao51 t339.length co51, .slice Ao56 t340.length co56] 28 (0, 0))) := ⟨h17_⟩
             have n18_ : Aside0 (w170.heap[gb314]? = some (.cells #[.slice Ao61 t342.length co61, .slice Ao67 t343.length co67] 28 (0, 0))) := ⟨h18_⟩
             have n19_ : Aside0 (w170.heap[gb322]? = some (.cells #[.slice Ao73 t315.length co73, .slice Ao80 t318.length co80] 28 (0, 0))) := ⟨h19_⟩
             have n20_ : Aside0 (w170.heap[gb368]? = some (.cells #[.slice none 0 0, .slice none 0 0] 28 (0, 0))) := ⟨h20_⟩
             have n21_ : Aside0 (w.heap.size ≤ gb368) := ⟨h21_⟩
             have n22_ : Aside0 (w.heap.size ≤ gb368) := ⟨h22_⟩
             have n23_ : Aside0 (gb277 ≠ gb368) := ⟨h23_⟩
             have n24_ : Aside0 (gb368 ≠ gb277) := ⟨h24_⟩
             have n25_ : Aside0 (gb278 ≠ gb368) := ⟨h25_⟩
             have n26_ : Aside0 (gb368 ≠ gb278) := ⟨h26_⟩
             have n27_ : Aside0 (gb300 ≠ gb368) := ⟨h27_⟩
             have n28_ : Aside0 (gb368 ≠ gb300) := ⟨h28_⟩
             have n29_ : Aside0 (gb307 ≠ gb368) := ⟨h29_⟩
             have n30_ : Aside0 (gb368 ≠ gb307) := ⟨h30_⟩
             have n31_ : Aside0 (gb314 ≠ gb368) := ⟨h31_⟩
             have n32_ : Aside0 (gb368 ≠ gb314) := ⟨h32_⟩
             have n33_ : Aside0 (gb322 ≠ gb368) := ⟨h33_⟩
             have n34_ : Aside0 (gb368 ≠ gb322) := ⟨h34_⟩
             have n35_ : Aside0 (Below w.heap.size w w170) := ⟨h35_⟩
             clear HO_301000 HO_301001 HO_308000 HO_308001 HO_315000 HO_315001 HO_323000 HO_323001 BK277 BK278 BK300 BK307 BK314 BK322 HB
             clear h0_ h1_ h2_ h3_ h4_ h5_ h6_ h7_ h8_ h9_ h10_ h11_ h12_ h13_ h14_ h15_ h16_ h17_ h18_ h19_ h20_ h21_ h22_ h23_ h24_ h25_ h26_ h27_ h28_ h29_ h30_ h31_ h32_ h33_ h34_ h35_
             have HO351 := n0_
             have HO354 := n1_
             have HO357 := n2_
             have HO360 := n3_
             have HO363 := n4_
             have HO366 := n5_
             have HO_301000 := n6_
             have HO_301001 := n7_
             have HO_308000 := n8_
             have HO_308001 := n9_
             have HO_315000 := n10_
             have HO_315001 := n11_
             have HO_323000 := n12_
             have HO_323001 := n13_
             have BK277 := n14_
             have BK278 := n15_
             have BK300 := n16_
             have BK307 := n17_
             have BK314 := n18_
             have BK322 := n19_
             have BK368 := n20_
             have GW368 := n21_
             have GE368 := n22_
             have NB277_368 := n23_
             have NB368_277 := n24_
             have NB278_368 := n25_
             have NB368_278 := n26_
             have NB300_368 := n27_
             have NB368_300 := n28_
             have NB307_368 := n29_
             have NB368_307 := n30_
             have NB314_368 := n31_
             have NB368_314 := n32_
             have NB322_368 := n33_
             have NB368_322 := n34_
             have HB := n35_
             clear n0_ n1_ n2_ n3_ n4_ n5_ n6_ n7_ n8_ n9_ n10_ n11_ n12_ n13_ n14_ n15_ n16_ n17_ n18_ n19_ n20_ n21_ n22_ n23_ n24_ n25_ n26_ n27_ n28_ n29_ n30_ n31_ n32_ n33_ n34_ n35_
             have hHeld : w170.cell? ⟨gb277, 0, none⟩ = some (.slice A0_0 l0_0.length c0_0) ∧ w170.cell? ⟨gb277, 1, none⟩ = some (.slice A0_1 l0_1.length c0_1) ∧ w170.cell? ⟨gb278, 0, none⟩ = some (.slice A1_0 l1_0.length c1_0) ∧ w170.cell? ⟨gb278, 1, none⟩ = some (.slice A1_1 l1_1.length c1_1) := hS_
             obtain ⟨Ao171, co171, eo171⟩ := Kd.R_slice HO363.out
             (first | subst eo171 | (injection eo171 with f1_ f2_ f3_; have f4_ := f1_.symm; have f5_ := f3_.symm; clear f1_ f2_ f3_; subst f4_; subst f5_))
             obtain ⟨Ao173, co173, eo173⟩ := Kd.R_slice HO366.out
             (first | subst eo173 | (injection eo173 with f1_ f2_ f3_; have f4_ := f1_.symm; have f5_ := f3_.symm; clear f1_ f2_ f3_; subst f4_; subst f5_))
             refine norm_ (a' := ?_) ?_ ?_
             rotate_left
             ·
              simp only [putAll, Act.put, List.setIfInBounds_toArray, List.set_cons_zero, List.set_cons_succ]
              rfl
             refine one_ (i := 9) (N := none) #[true, true, true, true, true, true, true, true, true, true, false] rfl rfl (one_of HT_.out (by kernel_rfl)) (by decide) (fun K hK => ?_)
             have hs172 : w170.cell? ⟨gb368, 0, none⟩ = some (.slice none 0 0) := (blk_cell BK368.out 0).trans rfl
             have hfs172 := blk_frozen BK368.out 0
             have hns172_0 := NB277_368.out
             have hns172_1 := NB278_368.out
             have hns172_2 := NB300_368.out
             have hns172_3 := NB307_368.out
             have hns172_4 := NB314_368.out
             have hns172_5 := NB322_368.out
             have hms172_0 := NB368_277.out
             have hms172_1 := NB368_278.out
             have hms172_2 := NB368_300.out
             have hms172_3 := NB368_307.out
             have hms172_4 := NB368_314.out
             have hms172_5 := NB368_322.out
             have hs174 : w170.cell? ⟨gb368, 1, none⟩ = some (.slice none 0 0) := (blk_cell BK368.out 1).trans rfl
             have hfs174 := blk_frozen BK368.out 1
             have hns174_0 := NB277_368.out
             have hns174_1 := NB278_368.out
             have hns174_2 := NB300_368.out
             have hns174_3 := NB307_368.out
             have hns174_4 := NB314_368.out
             have hns174_5 := NB322_368.out
             have hms174_0 := NB368_277.out
             have hms174_1 := NB368_278.out
             have hms174_2 := NB368_300.out
             have hms174_3 := NB368_307.out
             have hms174_4 := NB368_314.out
             have hms174_5 := NB368_322.out
             refine skip_ (w1 := ?_) (by rfl) rfl ?_ ?_
             rotate_left
             ·
              go_simp
              rfl
             refine hK.out _ _ ⟨((cell_far (p := ⟨gb368, _, none⟩) NB277_368.out _).trans (((cell_far (p := ⟨gb368, _, none⟩) NB277_368.out _).trans (hHeld.1)))), ((cell_far (p := ⟨gb368, _, none⟩) NB277_368.out _).trans (((cell_far (p := ⟨gb368, _, none⟩) NB277_368.out _).trans (hHeld.2.1)))), ((cell_far (p := ⟨gb368, _, none⟩) NB278_368.out _).trans (((cell_far (p := ⟨gb368, _, none⟩) NB278_368.out _).trans (hHeld.2.2.1)))), ((cell_far (p := ⟨gb368, _, none⟩) NB278_368.out _).trans (((cell_far (p := ⟨gb368, _, none⟩) NB278_368.out _).trans (hHeld.2.2.2))))⟩ (fun hHeld => ?_)
             clear hK K
             refine pure_ (i := 10) (N := some 16) (v := ?_) (a' := ?_) #[true, true, true, true, true, true, true, true, true, true, true] rfl rfl (any_of HT_.out (by kernel_rfl)) (fun _ _ _ h => h) (Or.inl ⟨by rfl, ?_⟩) ?_ ?_
             rotate_left
             ·
              intro w'
              go_simp
              with_reducible rfl
             rotate_left
             ·
              simp only [Act.put, List.setIfInBounds_toArray, List.set_cons_zero, List.set_cons_succ, i64_w, i32_w]
              rfl
             refine done_ (done_of HT_.out (by kernel_rfl)) ?_
             go_upto_region 32 with (fail)
             go_cut [110] (fun v110 wc => ∃ (kq : Nat) (x110_150 : Bool), v110 = .bool x110_150 ∧ Aside0 (laws_FnExactPick.j2 kq t345 x110_150 t346 t347 = some r) ∧ Aside0 (kq ≤ kj103) ∧ Aside0 (Kd.R (Kd.int .i64) 3 wc w.heap.size (fun k_ => some k_ ≠ ((.slice Ao45 t296.length co45) : Value).ownBlock ∧ some k_ ≠ ((.slice Ao51 t339.length co51) : Value).ownBlock ∧ some k_ ≠ ((.slice Ao56 t340.length co56) : Value).ownBlock ∧ some k_ ≠ ((.slice Ao61 t342.length co61) : Value).ownBlock ∧ some k_ ≠ ((.slice Ao67 t343.length co67) : Value).ownBlock ∧ some k_ ≠ ((.slice Ao73 t315.length co73) : Value).ownBlock ∧ some k_ ≠ ((.slice Ao80 t318.length co80) : Value).ownBlock ∧ some k_ ≠ ((.slice Ao171 t361.length co171) : Value).ownBlock ∧ some k_ ≠ ((.slice Ao173 t364.length co173) : Value).ownBlock) (.slice Ao43 t293.length co43) t293) ∧ Aside0 (Kd.R (Kd.int .i64) 3 wc w.heap.size (fun k_ => some k_ ≠ ((.slice Ao43 t293.length co43) : Value).ownBlock ∧ some k_ ≠ ((.slice Ao51 t339.length co51) : Value).ownBlock ∧ some k_ ≠ ((.slice Ao56 t340.length co56) : Value).ownBlock ∧ some k_ ≠ ((.slice Ao61 t342.length co61) : Value).ownBlock ∧ some k_ ≠ ((.slice Ao67 t343.length co67) : Value).ownBlock ∧ some k_ ≠ ((.slice Ao73 t315.length co73) : Value).ownBlock ∧ some k_ ≠ ((.slice Ao80 t318.length co80) : Value).ownBlock ∧ some k_ ≠ ((.slice Ao171 t361.length co171) : Value).ownBlock ∧ some k_ ≠ ((.slice Ao173 t364.length co173) : Value).ownBlock) (.slice Ao45 t296.length co45) t296) ∧ Aside0 (Kd.R (Kd.int .i64) 3 wc w.heap.size (fun k_ => some k_ ≠ ((.slice Ao43 t293.length co43) : Value).ownBlock ∧ some k_ ≠ ((.slice Ao45 t296.length co45) : Value).ownBlock ∧ some k_ ≠ ((.slice Ao56 t340.length co56) : Value).ownBlock ∧ some k_ ≠ ((.slice Ao61 t342.length co61) : Value).ownBlock ∧ some k_ ≠ ((.slice Ao67 t343.length co67) : Value).ownBlock ∧ some k_ ≠ ((.slice Ao73 t315.length co73) : Value).ownBlock ∧ some k_ ≠ ((.slice Ao80 t318.length co80) : Value).ownBlock ∧ some k_ ≠ ((.slice Ao171 t361.length co171) : Value).ownBlock ∧ some k_ ≠ ((.slice Ao173 t364.length co173) : Value).ownBlock) (.slice Ao51 t339.length co51) t339) ∧ Aside0 (Kd.R (Kd.int .i64) 3 wc w.heap.size (fun k_ => some k_ ≠ ((.slice Ao43 t293.length co43) : Value).ownBlock ∧ some k_ ≠ ((.slice Ao45 t296.length co45) : Value).ownBlock ∧ some k_ ≠ ((.slice Ao51 t339.length co51) : Value).ownBlock ∧ some k_ ≠ ((.slice Ao61 t342.length co61) : Value).ownBlock ∧ some k_ ≠ ((.slice Ao67 t343.length co67) : Value).ownBlock ∧ some k_ ≠ ((.slice Ao73 t315.length co73) : Value).ownBlock ∧ some k_ ≠ ((.slice Ao80 t318.length co80) : Value).ownBlock ∧ some k_ ≠ ((.slice Ao171 t361.length co171) : Value).ownBlock ∧ some k_ ≠ ((.slice Ao173 t364.length co173) : Value).ownBlock) (.slice Ao56 t340.length co56) t340) ∧ Aside0 (Kd.R (Kd.int .i64) 3 wc w.heap.size (fun k_ => some k_ ≠ ((.slice Ao43 t293.length co43) : Value).ownBlock ∧ some k_ ≠ ((.slice Ao45 t296.length co45) : Value).ownBlock ∧ some k_ ≠ ((.slice Ao51 t339.length co51) : Value).ownBlock ∧ some k_ ≠ ((.slice Ao56 t340.length co56) : Value).ownBlock ∧ some k_ ≠ ((.slice Ao67 t343.length co67) : Value).ownBlock ∧ some k_ ≠ ((.slice Ao73 t315.length co73) : Value).ownBlock ∧ some k_ ≠ ((.slice Ao80 t318.length co80) : Value).ownBlock ∧ some k_ ≠ ((.slice Ao171 t361.length co171) : Value).ownBlock ∧ some k_ ≠ ((.slice Ao173 t364.length co173) : Value).ownBlock) (.slice Ao61 t342.length co61) t342) ∧ Aside0 (Kd.R (Kd.int .i64) 3 wc w.heap.size (fun k_ => some k_ ≠ ((.slice Ao43 t293.length co43) : Value).ownBlock ∧ some k_ ≠ ((.slice Ao45 t296.length co45) : Value).ownBlock ∧ some k_ ≠ ((.slice Ao51 t339.length co51) : Value).ownBlock ∧ some k_ ≠ ((.slice Ao56 t340.length co56) : Value).ownBlock ∧ some k_ ≠ ((.slice Ao61 t342.length co61) : Value).ownBlock ∧ some k_ ≠ ((.slice Ao73 t315.length co73) : Value).ownBlock ∧ some k_ ≠ ((.slice Ao80 t318.length co80) : Value).ownBlock ∧ some k_ ≠ ((.slice Ao171 t361.length co171) : Value).ownBlock ∧ some k_ ≠ ((.slice Ao173 t364.length co173) : Value).ownBlock) (.slice Ao67 t343.length co67) t343) ∧ Aside0 (Kd.R (Kd.int .i64) 3 wc w.heap.size (fun k_ => some k_ ≠ ((.slice Ao43 t293.length co43) : Value).ownBlock ∧ some k_ ≠ ((.slice Ao45 t296.length co45) : Value).ownBlock ∧ some k_ ≠ ((.slice Ao51 t339.length co51) : Value).ownBlock ∧ some k_ ≠ ((.slice Ao56 t340.length co56) : Value).ownBlock ∧ some k_ ≠ ((.slice Ao61 t342.length co61) : Value).ownBlock ∧ some k_ ≠ ((.slice Ao67 t343.length co67) : Value).ownBlock ∧ some k_ ≠ ((.slice Ao80 t318.length co80) : Value).ownBlock ∧ some k_ ≠ ((.slice Ao171 t361.length co171) : Value).ownBlock ∧ some k_ ≠ ((.slice Ao173 t364.length co173) : Value).ownBlock) (.slice Ao73 t315.length co73) t346) ∧ Aside0 (Kd.R (Kd.int .i64) 3 wc w.heap.size (fun k_ => some k_ ≠ ((.slice Ao43 t293.length co43) : Value).ownBlock ∧ some k_ ≠ ((.slice Ao45 t296.length co45) : Value).ownBlock ∧ some k_ ≠ ((.slice Ao51 t339.length co51) : Value).ownBlock ∧ some k_ ≠ ((.slice Ao56 t340.length co56) : Value).ownBlock ∧ some k_ ≠ ((.slice Ao61 t342.length co61) : Value).ownBlock ∧ some k_ ≠ ((.slice Ao67 t343.length co67) : Value).ownBlock ∧ some k_ ≠ ((.slice Ao73 t315.length co73) : Value).ownBlock ∧ some k_ ≠ ((.slice Ao171 t361.length co171) : Value).ownBlock ∧ some k_ ≠ ((.slice Ao173 t364.length co173) : Value).ownBlock) (.slice Ao80 t318.length co80) t347) ∧ Aside0 (Kd.R (Kd.int .i64) 3 wc w.heap.size (fun k_ => some k_ ≠ ((.slice Ao43 t293.length co43) : Value).ownBlock ∧ some k_ ≠ ((.slice Ao45 t296.length co45) : Value).ownBlock ∧ some k_ ≠ ((.slice Ao51 t339.length co51) : Value).ownBlock ∧ some k_ ≠ ((.slice Ao56 t340.length co56) : Value).ownBlock ∧ some k_ ≠ ((.slice Ao61 t342.length co61) : Value).ownBlock ∧ some k_ ≠ ((.slice Ao67 t343.length co67) : Value).ownBlock ∧ some k_ ≠ ((.slice Ao73 t315.length co73) : Value).ownBlock ∧ some k_ ≠ ((.slice Ao80 t318.length co80) : Value).ownBlock ∧ some k_ ≠ ((.slice Ao173 t364.length co173) : Value).ownBlock) (.slice Ao171 t361.length co171) t361) ∧ Aside0 (Kd.R (Kd.int .i64) 3 wc w.heap.size (fun k_ => some k_ ≠ ((.slice Ao43 t293.length co43) : Value).ownBlock ∧ some k_ ≠ ((.slice Ao45 t296.length co45) : Value).ownBlock ∧ some k_ ≠ ((.slice Ao51 t339.length co51) : Value).ownBlock ∧ some k_ ≠ ((.slice Ao56 t340.length co56) : Value).ownBlock ∧ some k_ ≠ ((.slice Ao61 t342.length co61) : Value).ownBlock ∧ some k_ ≠ ((.slice Ao67 t343.length co67) : Value).ownBlock ∧ some k_ ≠ ((.slice Ao73 t315.length co73) : Value).ownBlock ∧ some k_ ≠ ((.slice Ao80 t318.length co80) : Value).ownBlock ∧ some k_ ≠ ((.slice Ao171 t361.length co171) : Value).ownBlock) (.slice Ao173 t364.length co173) t364) ∧ Aside0 (wc.heap[gb277]? = some (.cells #[(.slice A0_0 l0_0.length c0_0), (.slice A0_1 l0_1.length c0_1)] 24 (0, 0))) ∧ Aside0 (wc.heap[gb278]? = some (.cells #[(.slice A1_0 l1_0.length c1_0), (.slice A1_1 l1_1.length c1_1)] 24 (0, 0))) ∧ Aside0 (wc.heap[gb300]? = some (.cells #[(.slice Ao43 t293.length co43), (.slice Ao45 t296.length co45)] 28 (0, 0))) ∧ Aside0 (wc.heap[gb307]? = some (.cells #[(.slice Ao51 t339.length co51), (.slice Ao56 t340.length co56)] 28 (0, 0))) ∧ Aside0 (wc.heap[gb314]? = some (.cells #[(.slice Ao61 t342.length co61), (.slice Ao67 t343.length co67)] 28 (0, 0))) ∧ Aside0 (wc.heap[gb322]? = some (.cells #[(.slice Ao73 t315.length co73), (.slice Ao80 t318.length co80)] 28 (0, 0))) ∧ Aside0 (wc.heap[gb368]? = some (.cells #[(.slice Ao171 t361.length co171), (.slice Ao173 t364.length co173)] 28 (0, 0))) ∧ Aside0 (Below w.heap.size w wc))
             case first =>
              have H := HC151.out
              clear HC151
              replace H := Option.bind_eq_some_iff.mp H
              obtain ⟨t369, A1750, H⟩ := H
              replace H : (if t369 = true then (laws_FnExactPick.j2 kj103 t345 (t367 != t299) t346 t347) else (laws_FnExactPick.j2 kj103 t345 true t346 t347)) = some r := H
              have A175 := Aside0.mk A1750
              clear A1750
              by_cases c176 : t369 = true
              ·
               subst c176
               have H1 : (laws_FnExactPick.j2 kj103 t345 (t367 != t299) t346 t347) = some r := by rw [if_pos rfl] at H; exact H
               clear H
               have H := H1
               clear H1
               have H' := Aside0.mk H
               clear H
               have hnb177 := NB368_277.out
               have hnc177 := NB277_368.out
               have hnb178 := NB368_278.out
               have hnc178 := NB278_368.out
               have hnb179 := NB368_300.out
               have hnc179 := NB300_368.out
               have hnb180 := NB368_307.out
               have hnc180 := NB307_368.out
               have hnb181 := NB368_314.out
               have hnc181 := NB314_368.out
               have hnb182 := NB368_322.out
               have hnc182 := NB322_368.out
               have hcz183_0 : w170.cell? ⟨gb368, 0, none⟩ = some (.slice none 0 0) := (blk_cell BK368.out 0).trans rfl
               have hcz183_1 : w170.cell? ⟨gb368, 1, none⟩ = some (.slice none 0 0) := (blk_cell BK368.out 1).trans rfl
               have hfz183_0 := blk_frozen BK368.out 0
               have hfz183_1 := blk_frozen BK368.out 1
               have hnb184 := NB300_277.out
               have hnc184 := NB277_300.out
               have hnb185 := NB300_278.out
               have hnc185 := NB278_300.out
               have hnb186 := NB300_307.out
               have hnc186 := NB307_300.out
               have hnb187 := NB300_314.out
               have hnc187 := NB314_300.out
               have hnb188 := NB300_322.out
               have hnc188 := NB322_300.out
               have hcz189_0 : w170.cell? ⟨gb300, 0, none⟩ = some (.slice Ao43 t293.length co43) := (blk_cell BK300.out 0).trans rfl
               have hcz189_1 : w170.cell? ⟨gb300, 1, none⟩ = some (.slice Ao45 t296.length co45) := (blk_cell BK300.out 1).trans rfl
               have hfz189_0 := blk_frozen BK300.out 0
               have hfz189_1 := blk_frozen BK300.out 1
               go_wp2_with (first | ((with_reducible refine gate_callee (f := 10) rfl ?_); refine goesL_ (some 104) rfl rfl Try.func10 (by kernel_rfl) rfl #[.agg #[.slice Ao171 t361.length co171, .slice Ao173 t364.length co173], .agg #[.slice Ao43 t293.length co43, .slice Ao45 t296.length co45]] rfl lU ?_; (with_reducible refine (laws_eqArray.calls kj103 _ _ t361 _ _ t364 _ _ t293 _ _ t296 true _ ?side1 ?side2 ?side3 ?side4 ?side5 ?side6 ?side7 ?side8 A175.out).mono ?_); (case side1 => refine (Kd.R_reads' (e := 3) (base := w.heap.size) (ok := fun k_ => (some k_ ≠ (v350 : Value).ownBlock ∧ (some k_ ≠ (v353 : Value).ownBlock ∧ (some k_ ≠ (v356 : Value).ownBlock ∧ (some k_ ≠ (v359 : Value).ownBlock ∧ (some k_ ≠ (.slice Ao173 t364.length co173 : Value).ownBlock ∧ (some k_ ≠ (.slice Ao43 t293.length co43 : Value).ownBlock ∧ (some k_ ≠ (.slice Ao45 t296.length co45 : Value).ownBlock ∧ (some k_ ≠ (.slice Ao51 t339.length co51 : Value).ownBlock ∧ (some k_ ≠ (.slice Ao56 t340.length co56 : Value).ownBlock ∧ (some k_ ≠ (.slice Ao61 t342.length co61 : Value).ownBlock ∧ (some k_ ≠ (.slice Ao67 t343.length co67 : Value).ownBlock ∧ (some k_ ≠ (.slice Ao73 t315.length co73 : Value).ownBlock ∧ some k_ ≠ (.slice Ao80 t318.length co80 : Value).ownBlock))))))))))))) (n := t361.length) (c := co171) ?_).2.2; exact (by refine RU ?_; exact (far2 HO363.out BK368.out))); (case side2 => exact (Kd.R_reads' HO363.out).2.1); (case side3 => refine (Kd.R_reads' (e := 3) (base := w.heap.size) (ok := fun k_ => (some k_ ≠ (v350 : Value).ownBlock ∧ (some k_ ≠ (v353 : Value).ownBlock ∧ (some k_ ≠ (v356 : Value).ownBlock ∧ (some k_ ≠ (v359 : Value).ownBlock ∧ (some k_ ≠ (.slice Ao171 t361.length co171 : Value).ownBlock ∧ (some k_ ≠ (.slice Ao43 t293.length co43 : Value).ownBlock ∧ (some k_ ≠ (.slice Ao45 t296.length co45 : Value).ownBlock ∧ (some k_ ≠ (.slice Ao51 t339.length co51 : Value).ownBlock ∧ (some k_ ≠ (.slice Ao56 t340.length co56 : Value).ownBlock ∧ (some k_ ≠ (.slice Ao61 t342.length co61 : Value).ownBlock ∧ (some k_ ≠ (.slice Ao67 t343.length co67 : Value).ownBlock ∧ (some k_ ≠ (.slice Ao73 t315.length co73 : Value).ownBlock ∧ some k_ ≠ (.slice Ao80 t318.length co80 : Value).ownBlock))))))))))))) (n := t364.length) (c := co173) ?_).2.2; exact (by refine RU ?_; exact (far2 HO366.out BK368.out))); (case side4 => exact (Kd.R_reads' HO366.out).2.1); (case side5 => refine (Kd.R_reads' (e := 3) (base := w.heap.size) (ok := fun k_ => (some k_ ≠ (v350 : Value).ownBlock ∧ (some k_ ≠ (v353 : Value).ownBlock ∧ (some k_ ≠ (v356 : Value).ownBlock ∧ (some k_ ≠ (v359 : Value).ownBlock ∧ (some k_ ≠ (.slice Ao171 t361.length co171 : Value).ownBlock ∧ (some k_ ≠ (.slice Ao173 t364.length co173 : Value).ownBlock ∧ (some k_ ≠ (.slice Ao45 t296.length co45 : Value).ownBlock ∧ (some k_ ≠ (.slice Ao51 t339.length co51 : Value).ownBlock ∧ (some k_ ≠ (.slice Ao56 t340.length co56 : Value).ownBlock ∧ (some k_ ≠ (.slice Ao61 t342.length co61 : Value).ownBlock ∧ (some k_ ≠ (.slice Ao67 t343.length co67 : Value).ownBlock ∧ (some k_ ≠ (.slice Ao73 t315.length co73 : Value).ownBlock ∧ some k_ ≠ (.slice Ao80 t318.length co80 : Value).ownBlock))))))))))))) (n := t293.length) (c := co43) ?_).2.2; exact (by refine RU ?_; exact (far2 HO_301000.out BK368.out))); (case side6 => exact (Kd.R_reads' HO_301000.out).2.1); (case side7 => refine (Kd.R_reads' (e := 3) (base := w.heap.size) (ok := fun k_ => (some k_ ≠ (v350 : Value).ownBlock ∧ (some k_ ≠ (v353 : Value).ownBlock ∧ (some k_ ≠ (v356 : Value).ownBlock ∧ (some k_ ≠ (v359 : Value).ownBlock ∧ (some k_ ≠ (.slice Ao171 t361.length co171 : Value).ownBlock ∧ (some k_ ≠ (.slice Ao173 t364.length co173 : Value).ownBlock ∧ (some k_ ≠ (.slice Ao43 t293.length co43 : Value).ownBlock ∧ (some k_ ≠ (.slice Ao51 t339.length co51 : Value).ownBlock ∧ (some k_ ≠ (.slice Ao56 t340.length co56 : Value).ownBlock ∧ (some k_ ≠ (.slice Ao61 t342.length co61 : Value).ownBlock ∧ (some k_ ≠ (.slice Ao67 t343.length co67 : Value).ownBlock ∧ (some k_ ≠ (.slice Ao73 t315.length co73 : Value).ownBlock ∧ some k_ ≠ (.slice Ao80 t318.length co80 : Value).ownBlock))))))))))))) (n := t296.length) (c := co45) ?_).2.2; exact (by refine RU ?_; exact (far2 HO_301001.out BK368.out))); (case side8 => exact (Kd.R_reads' HO_301001.out).2.1); rintro e w190 ⟨rfl, hb⟩; refine ⟨_, rfl, ?_⟩; replace HO_301000 := Aside0.mk (Kd.R_below (by refine RU ?_; exact (far2 HO_301000.out BK368.out)) hb); replace HO_301001 := Aside0.mk (Kd.R_below (by refine RU ?_; exact (far2 HO_301001.out BK368.out)) hb); replace HO_308000 := Aside0.mk (Kd.R_below (by refine RU ?_; exact (far2 HO_308000.out BK368.out)) hb); replace HO_308001 := Aside0.mk (Kd.R_below (by refine RU ?_; exact (far2 HO_308001.out BK368.out)) hb); replace HO_315000 := Aside0.mk (Kd.R_below (by refine RU ?_; exact (far2 HO_315000.out BK368.out)) hb); replace HO_315001 := Aside0.mk (Kd.R_below (by refine RU ?_; exact (far2 HO_315001.out BK368.out)) hb); replace HO_323000 := Aside0.mk (Kd.R_below (by refine RU ?_; exact (far2 HO_323000.out BK368.out)) hb); replace HO_323001 := Aside0.mk (Kd.R_below (by refine RU ?_; exact (far2 HO_323001.out BK368.out)) hb); replace HO351 := Aside0.mk (Kd.R_below (by refine RU ?_; exact (far2 HO351.out BK368.out)) hb); replace HO354 := Aside0.mk (Kd.R_below (by refine RU ?_; exact (far2 HO354.out BK368.out)) hb); replace HO357 := Aside0.mk (Kd.R_below (by refine RU ?_; exact (far2 HO357.out BK368.out)) hb); replace HO360 := Aside0.mk (Kd.R_below (by refine RU ?_; exact (far2 HO360.out BK368.out)) hb); replace HO363 := Aside0.mk (Kd.R_below (by refine RU ?_; exact (far2 HO363.out BK368.out)) hb); replace HO366 := Aside0.mk (Kd.R_below (by refine RU ?_; exact (far2 HO366.out BK368.out)) hb); replace BK277 := Aside0.mk (blk_below (g := gb277) (o := .cells #[.slice A0_0 l0_0.length c0_0, .slice A0_1 l0_1.length c0_1] 24 (0, 0)) (by refine kU ?_; refine blk_far ?_ NB277_368.out _; refine kU ?_; refine blk_far ?_ NB277_368.out _; refine kU ?_; exact BK277.out) hb); replace BK278 := Aside0.mk (blk_below (g := gb278) (o := .cells #[.slice A1_0 l1_0.length c1_0, .slice A1_1 l1_1.length c1_1] 24 (0, 0)) (by refine kU ?_; refine blk_far ?_ NB278_368.out _; refine kU ?_; refine blk_far ?_ NB278_368.out _; refine kU ?_; exact BK278.out) hb); replace BK300 := Aside0.mk (blk_below (g := gb300) (o := .cells #[.slice Ao43 t293.length co43, .slice Ao45 t296.length co45] 28 (0, 0)) (by refine kU ?_; refine blk_far ?_ NB300_368.out _; refine kU ?_; refine blk_far ?_ NB300_368.out _; refine kU ?_; exact BK300.out) hb); replace BK307 := Aside0.mk (blk_below (g := gb307) (o := .cells #[.slice Ao51 t339.length co51, .slice Ao56 t340.length co56] 28 (0, 0)) (by refine kU ?_; refine blk_far ?_ NB307_368.out _; refine kU ?_; refine blk_far ?_ NB307_368.out _; refine kU ?_; exact BK307.out) hb); replace BK314 := Aside0.mk (blk_below (g := gb314) (o := .cells #[.slice Ao61 t342.length co61, .slice Ao67 t343.length co67] 28 (0, 0)) (by refine kU ?_; refine blk_far ?_ NB314_368.out _; refine kU ?_; refine blk_far ?_ NB314_368.out _; refine kU ?_; exact BK314.out) hb); replace BK322 := Aside0.mk (blk_below (g := gb322) (o := .cells #[.slice Ao73 t315.length co73, .slice Ao80 t318.length co80] 28 (0, 0)) (by refine kU ?_; refine blk_far ?_ NB322_368.out _; refine kU ?_; refine blk_far ?_ NB322_368.out _; refine kU ?_; exact BK322.out) hb); replace BK368 := Aside0.mk (blk_below (g := gb368) (o := .cells #[.slice Ao171 t361.length co171, .slice Ao173 t364.length co173] 28 (0, 0)) (by refine kU ?_; refine blk_put (cs := #[.slice Ao171 t361.length co171, .slice none 0 0]) ?_ 1 _ rfl; refine kU ?_; refine blk_put (cs := #[.slice none 0 0, .slice none 0 0]) ?_ 0 _ rfl; refine kU ?_; exact BK368.out) hb); replace HB := Aside0.mk (below_step (bS7 HB.out GE277.out GE278.out GE300.out GE307.out GE314.out GE322.out GE368.out) hb); (try clear hb); (try clear hb2); (try clear hk); (try clear hi)))
               go_meet
               case rel => exact ⟨_, ((t367 != t299)), (by first | rfl | (simp; done) | (simp [*]; done)), H', ⟨by have := HJ24.out; have := HJ103.out; first | omega | exact Nat.le_refl _⟩, ⟨by (try simp only [hl308000_103]); (try simp only [hl308001_103]); (try simp only [hl315000_103]); (try simp only [hl315001_103]); refine RU ?_; exact Kd.R_mono HO_301000.out (fun _ hk => ⟨hk.2.2.2.2.2.2.1, ⟨hk.2.2.2.2.2.2.2.1, ⟨hk.2.2.2.2.2.2.2.2.1, ⟨hk.2.2.2.2.2.2.2.2.2.1, ⟨hk.2.2.2.2.2.2.2.2.2.2.1, ⟨hk.2.2.2.2.2.2.2.2.2.2.2.1, ⟨hk.2.2.2.2.2.2.2.2.2.2.2.2, ⟨hk.2.2.2.2.1, hk.2.2.2.2.2.1⟩⟩⟩⟩⟩⟩⟩⟩)⟩, ⟨by (try simp only [hl308000_103]); (try simp only [hl308001_103]); (try simp only [hl315000_103]); (try simp only [hl315001_103]); refine RU ?_; exact Kd.R_mono HO_301001.out (fun _ hk => ⟨hk.2.2.2.2.2.2.1, ⟨hk.2.2.2.2.2.2.2.1, ⟨hk.2.2.2.2.2.2.2.2.1, ⟨hk.2.2.2.2.2.2.2.2.2.1, ⟨hk.2.2.2.2.2.2.2.2.2.2.1, ⟨hk.2.2.2.2.2.2.2.2.2.2.2.1, ⟨hk.2.2.2.2.2.2.2.2.2.2.2.2, ⟨hk.2.2.2.2.1, hk.2.2.2.2.2.1⟩⟩⟩⟩⟩⟩⟩⟩)⟩, ⟨by (try simp only [hl308000_103]); (try simp only [hl308001_103]); (try simp only [hl315000_103]); (try simp only [hl315001_103]); refine RU ?_; exact Kd.R_mono HO_308000.out (fun _ hk => ⟨hk.2.2.2.2.2.2.1, ⟨hk.2.2.2.2.2.2.2.1, ⟨hk.2.2.2.2.2.2.2.2.1, ⟨hk.2.2.2.2.2.2.2.2.2.1, ⟨hk.2.2.2.2.2.2.2.2.2.2.1, ⟨hk.2.2.2.2.2.2.2.2.2.2.2.1, ⟨hk.2.2.2.2.2.2.2.2.2.2.2.2, ⟨hk.2.2.2.2.1, hk.2.2.2.2.2.1⟩⟩⟩⟩⟩⟩⟩⟩)⟩, ⟨by (try simp only [hl308000_103]); (try simp only [hl308001_103]); (try simp only [hl315000_103]); (try simp only [hl315001_103]); refine RU ?_; exact Kd.R_mono HO_308001.out (fun _ hk => ⟨hk.2.2.2.2.2.2.1, ⟨hk.2.2.2.2.2.2.2.1, ⟨hk.2.2.2.2.2.2.2.2.1, ⟨hk.2.2.2.2.2.2.2.2.2.1, ⟨hk.2.2.2.2.2.2.2.2.2.2.1, ⟨hk.2.2.2.2.2.2.2.2.2.2.2.1, ⟨hk.2.2.2.2.2.2.2.2.2.2.2.2, ⟨hk.2.2.2.2.1, hk.2.2.2.2.2.1⟩⟩⟩⟩⟩⟩⟩⟩)⟩, ⟨by (try simp only [hl308000_103]); (try simp only [hl308001_103]); (try simp only [hl315000_103]); (try simp only [hl315001_103]); refine RU ?_; exact Kd.R_mono HO_315000.out (fun _ hk => ⟨hk.2.2.2.2.2.2.1, ⟨hk.2.2.2.2.2.2.2.1, ⟨hk.2.2.2.2.2.2.2.2.1, ⟨hk.2.2.2.2.2.2.2.2.2.1, ⟨hk.2.2.2.2.2.2.2.2.2.2.1, ⟨hk.2.2.2.2.2.2.2.2.2.2.2.1, ⟨hk.2.2.2.2.2.2.2.2.2.2.2.2, ⟨hk.2.2.2.2.1, hk.2.2.2.2.2.1⟩⟩⟩⟩⟩⟩⟩⟩)⟩, ⟨by (try simp only [hl308000_103]); (try simp only [hl308001_103]); (try simp only [hl315000_103]); (try simp only [hl315001_103]); refine RU ?_; exact Kd.R_mono HO_315001.out (fun _ hk => ⟨hk.2.2.2.2.2.2.1, ⟨hk.2.2.2.2.2.2.2.1, ⟨hk.2.2.2.2.2.2.2.2.1, ⟨hk.2.2.2.2.2.2.2.2.2.1, ⟨hk.2.2.2.2.2.2.2.2.2.2.1, ⟨hk.2.2.2.2.2.2.2.2.2.2.2.1, ⟨hk.2.2.2.2.2.2.2.2.2.2.2.2, ⟨hk.2.2.2.2.1, hk.2.2.2.2.2.1⟩⟩⟩⟩⟩⟩⟩⟩)⟩, ⟨by (try simp only [hl308000_103]); (try simp only [hl308001_103]); (try simp only [hl315000_103]); (try simp only [hl315001_103]); refine RU ?_; exact Kd.R_mono HO_323000.out (fun _ hk => ⟨hk.2.2.2.2.2.2.1, ⟨hk.2.2.2.2.2.2.2.1, ⟨hk.2.2.2.2.2.2.2.2.1, ⟨hk.2.2.2.2.2.2.2.2.2.1, ⟨hk.2.2.2.2.2.2.2.2.2.2.1, ⟨hk.2.2.2.2.2.2.2.2.2.2.2.1, ⟨hk.2.2.2.2.2.2.2.2.2.2.2.2, ⟨hk.2.2.2.2.1, hk.2.2.2.2.2.1⟩⟩⟩⟩⟩⟩⟩⟩)⟩, ⟨by (try simp only [hl308000_103]); (try simp only [hl308001_103]); (try simp only [hl315000_103]); (try simp only [hl315001_103]); refine RU ?_; exact Kd.R_mono HO_323001.out (fun _ hk => ⟨hk.2.2.2.2.2.2.1, ⟨hk.2.2.2.2.2.2.2.1, ⟨hk.2.2.2.2.2.2.2.2.1, ⟨hk.2.2.2.2.2.2.2.2.2.1, ⟨hk.2.2.2.2.2.2.2.2.2.2.1, ⟨hk.2.2.2.2.2.2.2.2.2.2.2.1, ⟨hk.2.2.2.2.2.2.2.2.2.2.2.2, ⟨hk.2.2.2.2.1, hk.2.2.2.2.2.1⟩⟩⟩⟩⟩⟩⟩⟩)⟩, ⟨by (try simp only [hl308000_103]); (try simp only [hl308001_103]); (try simp only [hl315000_103]); (try simp only [hl315001_103]); refine RU ?_; exact Kd.R_mono HO363.out (fun _ hk => ⟨hk.2.2.2.2.2.1, ⟨hk.2.2.2.2.2.2.1, ⟨hk.2.2.2.2.2.2.2.1, ⟨hk.2.2.2.2.2.2.2.2.1, ⟨hk.2.2.2.2.2.2.2.2.2.1, ⟨hk.2.2.2.2.2.2.2.2.2.2.1, ⟨hk.2.2.2.2.2.2.2.2.2.2.2.1, ⟨hk.2.2.2.2.2.2.2.2.2.2.2.2, hk.2.2.2.2.1⟩⟩⟩⟩⟩⟩⟩⟩)⟩, ⟨by (try simp only [hl308000_103]); (try simp only [hl308001_103]); (try simp only [hl315000_103]); (try simp only [hl315001_103]); refine RU ?_; exact Kd.R_mono HO366.out (fun _ hk => ⟨hk.2.2.2.2.2.1, ⟨hk.2.2.2.2.2.2.1, ⟨hk.2.2.2.2.2.2.2.1, ⟨hk.2.2.2.2.2.2.2.2.1, ⟨hk.2.2.2.2.2.2.2.2.2.1, ⟨hk.2.2.2.2.2.2.2.2.2.2.1, ⟨hk.2.2.2.2.2.2.2.2.2.2.2.1, ⟨hk.2.2.2.2.2.2.2.2.2.2.2.2, hk.2.2.2.2.1⟩⟩⟩⟩⟩⟩⟩⟩)⟩, ⟨by (try simp only [hl308000_103]); (try simp only [hl308001_103]); (try simp only [hl315000_103]); (try simp only [hl315001_103]); refine kU ?_; exact BK277.out⟩, ⟨by (try simp only [hl308000_103]); (try simp only [hl308001_103]); (try simp only [hl315000_103]); (try simp only [hl315001_103]); refine kU ?_; exact BK278.out⟩, ⟨by (try simp only [hl308000_103]); (try simp only [hl308001_103]); (try simp only [hl315000_103]); (try simp only [hl315001_103]); refine kU ?_; exact BK300.out⟩, ⟨by (try simp only [hl308000_103]); (try simp only [hl308001_103]); (try simp only [hl315000_103]); (try simp only [hl315001_103]); refine kU ?_; exact BK307.out⟩, ⟨by (try simp only [hl308000_103]); (try simp only [hl308001_103]); (try simp only [hl315000_103]); (try simp only [hl315001_103]); refine kU ?_; exact BK314.out⟩, ⟨by (try simp only [hl308000_103]); (try simp only [hl308001_103]); (try simp only [hl315000_103]); (try simp only [hl315001_103]); refine kU ?_; exact BK322.out⟩, ⟨by (try simp only [hl308000_103]); (try simp only [hl308001_103]); (try simp only [hl315000_103]); (try simp only [hl315001_103]); refine kU ?_; exact BK368.out⟩, ⟨by exact bS7 HB.out GE277.out GE278.out GE300.out GE307.out GE314.out GE322.out GE368.out⟩⟩
              ·
               replace c176 := Bool.eq_false_iff.mpr c176
               subst c176
               have H1 : (laws_FnExactPick.j2 kj103 t345 true t346 t347) = some r := by rw [if_neg (show ¬ (false = true) by decide)] at H; exact H
               clear H
               have H := H1
               clear H1
               have hz_ : ∀ kz, laws_FnExactPick.j2 kz t345 true t346 t347 = some r → r = false := by intro kz hz; cases kz with | zero => exact absurd hz (by simp [laws_FnExactPick.j2]) | succ kz => simp only [laws_FnExactPick.j2] at hz; first | (rw [if_pos rfl] at hz; exact (Option.some.inj hz).symm) | (simp at hz; exact hz.symm) | (simp at hz; exact hz)
               exact absurd (HT.out.symm.trans (hz_ _ H)) (by decide)
             case rest =>
              clear HC151
              try clear c1
              try clear p2
              try clear c7
              try clear c10
              try clear c15
              try clear c17
              try clear c18
              try clear c176
              try clear c177
              try clear c178
              try clear c179
              try clear c180
              try clear c181
              try clear c182
              try clear c184
              try clear c185
              try clear c186
              try clear c187
              try clear c188
              try clear hcz183_0
              try clear hcz183_1
              try clear hcz189_0
              try clear hcz189_1
              try clear hfz183_0
              try clear hfz183_1
              try clear hfz189_0
              try clear hfz189_1
              obtain ⟨kq, x110_150, rfl, HA, HJ150, HO_301000, HO_301001, HO_308000, HO_308001, HO_315000, HO_315001, HO_323000, HO_323001, HO_369000, HO_369001, BK277, BK278, BK300, BK307, BK314, BK322, BK368, HB⟩ := hcut
              have hl323000_150 := (Kd.R_reads' HO_323000.out).1
              rw [hl323000_150] at HO_323000
              (try simp only [hl323000_150])
              (try simp only [hl323000_150] at BK277)
              (try simp only [hl323000_150] at BK278)
              (try simp only [hl323000_150] at BK300)
              (try simp only [hl323000_150] at BK307)
              (try simp only [hl323000_150] at BK314)
              (try simp only [hl323000_150] at BK322)
              (try simp only [hl323000_150] at BK368)
              (try simp only [hl323000_150] at HO_301000)
              (try simp only [hl323000_150] at HO_301001)
              (try simp only [hl323000_150] at HO_308000)
              (try simp only [hl323000_150] at HO_308001)
              (try simp only [hl323000_150] at HO_315000)
              (try simp only [hl323000_150] at HO_315001)
              (try simp only [hl323000_150] at HO_323001)
              (try simp only [hl323000_150] at HO_369000)
              (try simp only [hl323000_150] at HO_369001)
              have hl323001_150 := (Kd.R_reads' HO_323001.out).1
              rw [hl323001_150] at HO_323001
              (try simp only [hl323001_150])
              (try simp only [hl323001_150] at BK277)
              (try simp only [hl323001_150] at BK278)
              (try simp only [hl323001_150] at BK300)
              (try simp only [hl323001_150] at BK307)
              (try simp only [hl323001_150] at BK314)
              (try simp only [hl323001_150] at BK322)
              (try simp only [hl323001_150] at BK368)
              (try simp only [hl323001_150] at HO_301000)
              (try simp only [hl323001_150] at HO_301001)
              (try simp only [hl323001_150] at HO_308000)
              (try simp only [hl323001_150] at HO_308001)
              (try simp only [hl323001_150] at HO_315000)
              (try simp only [hl323001_150] at HO_315001)
              (try simp only [hl323001_150] at HO_323000)
              (try simp only [hl323001_150] at HO_369000)
              (try simp only [hl323001_150] at HO_369001)
              cases kq with
              | zero => exact absurd HA.out (by simp [laws_FnExactPick.j2])
              | succ kj150 =>
               have H := HA.out
               clear HA
               simp only [laws_FnExactPick.j2] at H
               by_cases c191 : x110_150 = true
               ·
                subst c191
                have H1 : (some false) = some r := by rw [if_pos rfl] at H; exact H
                clear H
                have H := H1
                clear H1
                obtain rfl := Option.some.inj H
                exact absurd HT.out (by decide)
               ·
                replace c191 := Bool.eq_false_iff.mpr c191
                subst c191
                have H1 : ((laws_heldArray.f kj150 t346 t347 1).bind fun t370 => (if t370 < 0 then (some false) else (if t370 = t345 then (some true) else (some false)))) = some r := by rw [if_neg (show ¬ (false = true) by decide)] at H; exact H
                clear H
                have H := H1
                clear H1
                replace H := Option.bind_eq_some_iff.mp H
                obtain ⟨t370, A1920, H⟩ := H
                replace H : (if t370 < 0 then (some false) else (if t370 = t345 then (some true) else (some false))) = some r := H
                have A192 := Aside0.mk A1920
                clear A1920
                by_cases c193 : t370 < 0
                ·
                 rw [if_pos c193] at H
                 have c193b0 : decide (t370 < 0) = true := decide_eq_true c193
                 clear c193
                 obtain rfl := Option.some.inj H
                 exact absurd HT.out (by decide)
                ·
                 rw [if_neg c193] at H
                 have c193b0 : decide (t370 < 0) = false := decide_eq_false c193
                 clear c193
                 by_cases c194 : t370 = t345
                 ·
                  rw [if_pos c194] at H
                  have c194b0 : (t370 == t345) = true := beq_iff_eq.mpr c194
                  have c194b1 : (t370 != t345) = false := bne_eq_false_iff_eq.mpr c194
                  clear c194
                  obtain rfl := Option.some.inj H
                  have hnb195 := NB322_277.out
                  have hnc195 := NB277_322.out
                  have hnb196 := NB322_278.out
                  have hnc196 := NB278_322.out
                  have hnb197 := NB322_300.out
                  have hnc197 := NB300_322.out
                  have hnb198 := NB322_307.out
                  have hnc198 := NB307_322.out
                  have hnb199 := NB322_314.out
                  have hnc199 := NB314_322.out
                  have hnb200 := NB322_368.out
                  have hnc200 := NB368_322.out
                  have hcz201_0 : wc.cell? ⟨gb322, 0, none⟩ = some (.slice Ao73 t346.length co73) := (blk_cell BK322.out 0).trans rfl
                  have hcz201_1 : wc.cell? ⟨gb322, 1, none⟩ = some (.slice Ao80 t347.length co80) := (blk_cell BK322.out 1).trans rfl
                  have hfz201_0 := blk_frozen BK322.out 0
                  have hfz201_1 := blk_frozen BK322.out 1
                  go_wp2_with (first | ((with_reducible refine gate_callee (f := 16) rfl ?_); refine goesL_ (some 113) rfl rfl Try.func16 (by kernel_rfl) rfl #[.agg #[.slice Ao73 t346.length co73, .slice Ao80 t347.length co80], .int .i64 1] rfl lU ?_; (with_reducible refine (laws_heldArray.calls kj150 _ _ t346 _ _ t347 1 t370 _ ?side1 ?side2 ?side3 ?side4 A192.out).mono ?_); (case side1 => exact cU (Kd.R_reads' HO_323000.out).2.2); (case side2 => exact (Kd.R_reads' HO_323000.out).2.1); (case side3 => exact cU (Kd.R_reads' HO_323001.out).2.2); (case side4 => exact (Kd.R_reads' HO_323001.out).2.1); rintro e w202 ⟨rfl, hb⟩; refine ⟨_, rfl, ?_⟩; replace HO_301000 := Aside0.mk (Kd.R_below (RU HO_301000.out) hb); replace HO_301001 := Aside0.mk (Kd.R_below (RU HO_301001.out) hb); replace HO_308000 := Aside0.mk (Kd.R_below (RU HO_308000.out) hb); replace HO_308001 := Aside0.mk (Kd.R_below (RU HO_308001.out) hb); replace HO_315000 := Aside0.mk (Kd.R_below (RU HO_315000.out) hb); replace HO_315001 := Aside0.mk (Kd.R_below (RU HO_315001.out) hb); replace HO_323000 := Aside0.mk (Kd.R_below (RU HO_323000.out) hb); replace HO_323001 := Aside0.mk (Kd.R_below (RU HO_323001.out) hb); replace HO_369000 := Aside0.mk (Kd.R_below (RU HO_369000.out) hb); replace HO_369001 := Aside0.mk (Kd.R_below (RU HO_369001.out) hb); replace BK277 := Aside0.mk (kB BK277.out hb); replace BK278 := Aside0.mk (kB BK278.out hb); replace BK300 := Aside0.mk (kB BK300.out hb); replace BK307 := Aside0.mk (kB BK307.out hb); replace BK314 := Aside0.mk (kB BK314.out hb); replace BK322 := Aside0.mk (kB BK322.out hb); replace BK368 := Aside0.mk (kB BK368.out hb); replace HB := Aside0.mk (below_step (bS7 HB.out GE277.out GE278.out GE300.out GE307.out GE314.out GE322.out GE368.out) hb); (try clear hb); (try clear hb2); (try clear hk); (try clear hi)))
                  go_ret
                  exact ⟨by first | rfl | (simp [errW_none, errW_some] <;> rfl) | (simp [*, errW_none, errW_some] <;> rfl), by exact bS7 HB.out GE277.out GE278.out GE300.out GE307.out GE314.out GE322.out GE368.out⟩
                 ·
                  rw [if_neg c194] at H
                  have c194b0 : (t370 == t345) = false := beq_eq_false_iff_ne.mpr c194
                  have c194b1 : (t370 != t345) = true := bne_iff_ne.mpr c194
                  obtain rfl := Option.some.inj H
                  exact absurd HT.out (by decide)
theorem laws_FnExactPick.calls (k : Nat) (A0_0 : Option Addr) (c0_0 : Nat) (l0_0 : List Int) (A0_1 : Option Addr) (c0_1 : Nat) (l0_1 : List Int) (A1_0 : Option Addr) (c1_0 : Nat) (l1_0 : List Int) (A1_1 : Option Addr) (c1_1 : Nat) (l1_1 : List Int) (r : Bool) (w : World) (hr0_0 : Kd.C (Kd.int .i64) w A0_0 l0_0.length l0_0) (hc0_0 : l0_0.length ≤ c0_0) (hr0_1 : Kd.C (Kd.int .i64) w A0_1 l0_1.length l0_1) (hc0_1 : l0_1.length ≤ c0_1) (hr1_0 : Kd.C (Kd.int .i64) w A1_0 l1_0.length l1_0) (hc1_0 : l1_0.length ≤ c1_0) (hr1_1 : Kd.C (Kd.int .i64) w A1_1 l1_1.length l1_1) (hc1_1 : l1_1.length ≤ c1_1) (h : laws_FnExactPick.f k l0_0 l0_1 l1_0 l1_1 = some r) (hT : r = true) :
    Calls Try.prog 4 #[.agg #[.slice A0_0 l0_0.length c0_0, .slice A0_1 l0_1.length c0_1], .agg #[.slice A1_0 l1_0.length c1_0, .slice A1_1 l1_1.length c1_1]] w fun e w' => e = .returned (.bool r) ∧ Below w.heap.size w w' := by
  exact (laws_FnExactPick.part1.2 fun _ => laws_FnExactPick.part2) k A0_0 c0_0 l0_0 A0_1 c0_1 l0_1 A1_0 c1_0 l1_0 A1_1 c1_1 l1_1 r w hr0_0 hc0_0 hr0_1 hc0_1 hr1_0 hc1_0 hr1_1 hc1_1 h hT
end Go.Proofs.Ytnpcjppcoejgmaa.PFnExactPick
