/- A law's walk, written in parts: this is part 2. It has no condition of its own. -/
import Derived.Test.YtjkbndfaemjjiaaPFnExactEachTwox10
namespace Go.Proofs.Ytjkbndfaemjjiaa.PFnExactEachTwo
open Go.RowKit Go.Proofs.YtjkbndfaemjjiaaW.PrintWords Go.Proofs.YtjkbndfaemjjiaaW.PrintLast Go.Proofs.YtjkbndfaemjjiaaW.PrintMore Go.Proofs.YtjkbndfaemjjiaaQ
attribute [local go_sem] max2_int min2_int max_two min_two max_three min_three max_four min_four   -- for this text's walks alone
set_option linter.unusedVariables false
set_option linter.unusedSimpArgs false
set_option maxHeartbeats 8000000 in
set_option maxRecDepth 100000 in
theorem laws_FnExactEachTwo.part2 : laws_FnExactEachTwo.part1.1 := by
             intro k a0 A1_0 c1_0 l1_0 A1_1 c1_1 l1_1 A2_0 c2_0 l2_0 A2_1 c2_1 l2_1 r w HT hu24 hu26 HR1_0 HC1_0 HR1_1 HC1_1 HR2_0 HC2_0 HR2_1 HC2_1 t292 A4 c5b0 t293 A11 c12b0 t294 t297 A20 t300 t303 A21 t306 t309 t312 A22 t314 t317 A23 t321 t324 A24 t328 t331 t334 A25 _ gb290 w27 GW290 GE290 gb291 w28 GW291 GE291 NB290_291 NB291_290 hnb29 hnc29 hcz30_0 hcz30_1 hfz30_0 hfz30_1 w31 hcz32_0 hcz32_1 hfz32_0 hfz32_1 w33 _ _ w34 _ v295 v298 v301 v304 gb313 w43 hS_ GW313 GE313 NB290_313 NB313_290 NB291_313 NB313_291 _ Ao44 co44 Ao46 co46 hs45 hfs45 hns45_0 hns45_1 hms45_0 hms45_1 hs47 hfs47 hns47_0 hns47_1 hms47_0 hms47_1 _ hnb48 hnc48 w50 gb320 w51 GW320 GE320 NB290_320 NB320_290 NB291_320 NB320_291 NB313_320 NB320_313 Ao52 co52 hnb53 hnc53 hnb54 hnc54 hnb55 hnc55 Ao57 co57 hnb58 hnc58 w60 gb327 w61 GW327 GE327 NB290_327 NB327_290 NB291_327 NB327_291 NB313_327 NB327_313 NB320_327 NB327_320 Ao62 co62 hnb63 hnc63 hnb64 hnc64 hnb65 hnc65 hnb66 hnc66 Ao68 co68 w70 gb335 w71 _ GW335 GE335 _ NB290_335 NB335_290 _ NB291_335 NB335_291 _ NB313_335 NB335_313 _ NB320_335 NB335_320 _ NB327_335 NB335_327 _ Ao72 co72 hnb73 hnc73 hnb74 hnc74 hnb75 hnc75 hnb76 hnc76 hnb77 hnc77 Ao79 co79 HO296 HO299 HO302 HO305 HO308 HO311 HO316 HO319 HO323 HO326 HO330 HO333 _ _ _ _ _ _ _ _ _ _ _ _ _ _ _ _ _ _ _ _ _ _ _ _ _ _ _ _ _ _ _ _ _ _ _ _ _ _ _ _ _ _ _ _ _ _ _ _ _ _ _ _ _ _ _ _ _ _ _ _ _ _ _ _ _ _ _ u86 _ _ _ _ _ _ _ _ _ _ _ _ _ _ _ _ _ _ _ _ _ _ _ _ _ _ _ _ _ _ _ _ _ _ _ _ _ kj25 HJ25 t337 t340 A95 A96 t344 t347 A98 A99 t351 t352 t353 A101 t354 t355 t356 A102 w104 _ w105 Ao106 co106 Ao107 co107 _ w108 _ w109 _ w110 Ao111 co111 Ao112 co112 _ w113 _ hnb114 hnc114 hnb115 hnc115 hnb116 hnc116 hnb117 hnc117 hnb118 hnc118 w120 hnb121 hnc121 hnb122 hnc122 hnb123 hnc123 hnb124 hnc124 w126 _ _ _ _ _ _ _ _ _ _ _ _ _ _ HO339 HO342 HO346 HO349 _ wc u19 u20 u21 u22 u23 u24 u25 u26 u27 u28 u29 u30 u31 u32 u33 u34 u35 u36 u37 u38 u39 u40 u41 u42 u43 u44 u45 u46 u47 u48 u49 u50 u51 u52 u53 u54 u55 u56 u57 u58 u59 u60 u61 u62 u63 u64 u65 u66 u67 u68 u69 u70 u71 u72 u73 u74 u75 u76 u77 u78 u79 u80 u81 u82 u83 u84 u85 u87 u88 u89 u90 u91 u92 u93 u94 u95 u96 u97 u98 u99 u100 u101 u102 u103 u104 u105 u106 u107 u108 u109 u110 u111 u112 u113 u114 u115 u116 u117 u118 u119 u120 u121 u122 u123 hl321000_102 hl321001_102 hl328000_102 hl328001_102 kj102 HJ102 t358 t359 t360 A143 t361 A144 c145b0 c146b0 c146b1 t362 t365 A147 t368 t371 A148 t374 t377 t380 A149 HC150 hnb151 hnc151 hnb152 hnc152 hnb153 hnc153 hnb154 hnc154 hnb155 hnc155 hcz156_0 hcz156_1 hfz156_0 hfz156_1 w157 hcz158_0 hcz158_1 hfz158_0 hfz158_1 w159 _ _ HT_ HW_ w160 HO_314000 HO_314001 HO_321000 HO_321001 HO_328000 HO_328001 HO_336000 HO_336001 BK290 BK291 BK313 BK320 BK327 BK335 HB hHeld
             refine join_ (σ := Value × Value × Value × Value × Value × Value × Nat) 2 #[true, true, true, true, true, true, true, true, true, true, false, false] (fun s_ => [(101, .agg #[s_.1, s_.2.1]), (103, .agg #[s_.2.2.1, s_.2.2.2.1]), (104, .tuple #[.agg #[s_.2.2.2.2.1, s_.2.2.2.2.2.1], .int .i64 t380]), (17, .pointer (some ⟨s_.2.2.2.2.2.2, 0, none⟩)), (98, .tuple #[.agg #[s_.2.2.2.2.1, s_.2.2.2.2.2.1], .int .i64 t380]), (105, .agg #[s_.2.2.2.2.1, s_.2.2.2.2.2.1]), (106, .int .i64 t380)]) (fun s_ w' => (w'.cell? ⟨gb290, 0, none⟩ = some (.slice A1_0 l1_0.length c1_0) ∧ w'.cell? ⟨gb290, 1, none⟩ = some (.slice A1_1 l1_1.length c1_1) ∧ w'.cell? ⟨gb291, 0, none⟩ = some (.slice A2_0 l2_0.length c2_0) ∧ w'.cell? ⟨gb291, 1, none⟩ = some (.slice A2_1 l2_1.length c2_1)) ∧ (Kd.R (Kd.int .i64) 3 w' w.heap.size (fun k_ => some k_ ≠ (s_.2.1 : Value).ownBlock ∧ some k_ ≠ (s_.2.2.1 : Value).ownBlock ∧ some k_ ≠ (s_.2.2.2.1 : Value).ownBlock ∧ some k_ ≠ (s_.2.2.2.2.1 : Value).ownBlock ∧ some k_ ≠ (s_.2.2.2.2.2.1 : Value).ownBlock ∧ some k_ ≠ (.slice Ao44 t306.length co44 : Value).ownBlock ∧ some k_ ≠ (.slice Ao46 t309.length co46 : Value).ownBlock ∧ some k_ ≠ (.slice Ao52 t352.length co52 : Value).ownBlock ∧ some k_ ≠ (.slice Ao57 t353.length co57 : Value).ownBlock ∧ some k_ ≠ (.slice Ao62 t355.length co62 : Value).ownBlock ∧ some k_ ≠ (.slice Ao68 t356.length co68 : Value).ownBlock ∧ some k_ ≠ (.slice Ao72 t328.length co72 : Value).ownBlock ∧ some k_ ≠ (.slice Ao79 t331.length co79 : Value).ownBlock) s_.1 t362) ∧ (Kd.R (Kd.int .i64) 3 w' w.heap.size (fun k_ => some k_ ≠ (s_.1 : Value).ownBlock ∧ some k_ ≠ (s_.2.2.1 : Value).ownBlock ∧ some k_ ≠ (s_.2.2.2.1 : Value).ownBlock ∧ some k_ ≠ (s_.2.2.2.2.1 : Value).ownBlock ∧ some k_ ≠ (s_.2.2.2.2.2.1 : Value).ownBlock ∧ some k_ ≠ (.slice Ao44 t306.length co44 : Value).ownBlock ∧ some k_ ≠ (.slice Ao46 t309.length co46 : Value).ownBlock ∧ some k_ ≠ (.slice Ao52 t352.length co52 : Value).ownBlock ∧ some k_ ≠ (.slice Ao57 t353.length co57 : Value).ownBlock ∧ some k_ ≠ (.slice Ao62 t355.length co62 : Value).ownBlock ∧ some k_ ≠ (.slice Ao68 t356.length co68 : Value).ownBlock ∧ some k_ ≠ (.slice Ao72 t328.length co72 : Value).ownBlock ∧ some k_ ≠ (.slice Ao79 t331.length co79 : Value).ownBlock) s_.2.1 t365) ∧ (Kd.R (Kd.int .i64) 3 w' w.heap.size (fun k_ => some k_ ≠ (s_.1 : Value).ownBlock ∧ some k_ ≠ (s_.2.1 : Value).ownBlock ∧ some k_ ≠ (s_.2.2.2.1 : Value).ownBlock ∧ some k_ ≠ (s_.2.2.2.2.1 : Value).ownBlock ∧ some k_ ≠ (s_.2.2.2.2.2.1 : Value).ownBlock ∧ some k_ ≠ (.slice Ao44 t306.length co44 : Value).ownBlock ∧ some k_ ≠ (.slice Ao46 t309.length co46 : Value).ownBlock ∧ some k_ ≠ (.slice Ao52 t352.length co52 : Value).ownBlock ∧ some k_ ≠ (.slice Ao57 t353.length co57 : Value).ownBlock ∧ some k_ ≠ (.slice Ao62 t355.length co62 : Value).ownBlock ∧ some k_ ≠ (.slice Ao68 t356.length co68 : Value).ownBlock ∧ some k_ ≠ (.slice Ao72 t328.length co72 : Value).ownBlock ∧ some k_ ≠ (.slice Ao79 t331.length co79 : Value).ownBlock) s_.2.2.1 t368) ∧ (Kd.R (Kd.int .i64) 3 w' w.heap.size (fun k_ => some k_ ≠ (s_.1 : Value).ownBlock ∧ some k_ ≠ (s_.2.1 : Value).ownBlock ∧ some k_ ≠ (s_.2.2.1 : Value).ownBlock ∧ some k_ ≠ (s_.2.2.2.2.1 : Value).ownBlock ∧ some k_ ≠ (s_.2.2.2.2.2.1 : Value).ownBlock ∧ some k_ ≠ (.slice Ao44 t306.length co44 : Value).ownBlock ∧ some k_ ≠ (.slice Ao46 t309.length co46 : Value).ownBlock ∧ some k_ ≠ (.slice Ao52 t352.length co52 : Value).ownBlock ∧ some k_ ≠ (.slice Ao57 t353.length co57 : Value).ownBlock ∧ some k_ ≠ (.slice Ao62 t355.length co62 : Value).ownBlock ∧ some k_ ≠ (.slice Ao68 t356.length co68 : Value).ownBlock ∧ some k_ ≠ (.slice Ao72 t328.length co72 : Value).ownBlock ∧ some k_ ≠ (.slice Ao79 t331.length co79 : Value).ownBlock) s_.2.2.2.1 t371) ∧ (Kd.R (Kd.int .i64) 3 w' w.heap.size (fun k_ => some k_ ≠ (s_.1 : Value).ownBlock ∧ some k_ ≠ (s_.2.1 : Value).ownBlock ∧ some k_ ≠ (s_.2.2.1 : Value).ownBlock ∧ some k_ ≠ (s_.2.2.2.1 : Value).ownBlock ∧ some k_ ≠ (s_.2.2.2.2.2.1 : Value).ownBlock ∧ some k_ ≠ (.slice Ao44 t306.length co44 : Value).ownBlock ∧ some k_ ≠ (.slice Ao46 t309.length co46 : Value).ownBlock ∧ some k_ ≠ (.slice Ao52 t352.length co52 : Value).ownBlock ∧ some k_ ≠ (.slice Ao57 t353.length co57 : Value).ownBlock ∧ some k_ ≠ (.slice Ao62 t355.length co62 : Value).ownBlock ∧ some k_ ≠ (.slice Ao68 t356.length co68 : Value).ownBlock ∧ some k_ ≠ (.slice Ao72 t328.length co72 : Value).ownBlock ∧ some k_ ≠ (.slice Ao79 t331.length co79 : Value).ownBlock) s_.2.2.2.2.1 t374) ∧ (Kd.R (Kd.int .i64) 3 w' w.heap.size (fun k_ => some k_ ≠ (s_.1 : Value).ownBlock ∧ some k_ ≠ (s_.2.1 : Value).ownBlock ∧ some k_ ≠ (s_.2.2.1 : Value).ownBlock ∧ some k_ ≠ (s_.2.2.2.1 : Value).ownBlock ∧ some k_ ≠ (s_.2.2.2.2.1 : Value).ownBlock ∧ some k_ ≠ (.slice Ao44 t306.length co44 : Value).ownBlock ∧ some k_ ≠ (.slice Ao46 t309.length co46 : Value).ownBlock ∧ some k_ ≠ (.slice Ao52 t352.length co52 : Value).ownBlock ∧ some k_ ≠ (.slice Ao57 t353.length co57 : Value).ownBlock ∧ some k_ ≠ (.slice Ao62 t355.length co62 : Value).ownBlock ∧ some k_ ≠ (.slice Ao68 t356.length co68 : Value).ownBlock ∧ some k_ ≠ (.slice Ao72 t328.length co72 : Value).ownBlock ∧ some k_ ≠ (.slice Ao79 t331.length co79 : Value).ownBlock) s_.2.2.2.2.2.1 t377) ∧ (Kd.R (Kd.int .i64) 3 w' w.heap.size (fun k_ => some k_ ≠ (s_.1 : Value).ownBlock ∧ some k_ ≠ (s_.2.1 : Value).ownBlock ∧ some k_ ≠ (s_.2.2.1 : Value).ownBlock ∧ some k_ ≠ (s_.2.2.2.1 : Value).ownBlock ∧ some k_ ≠ (s_.2.2.2.2.1 : Value).ownBlock ∧ some k_ ≠ (s_.2.2.2.2.2.1 : Value).ownBlock ∧ some k_ ≠ (.slice Ao46 t309.length co46 : Value).ownBlock ∧ some k_ ≠ (.slice Ao52 t352.length co52 : Value).ownBlock ∧ some k_ ≠ (.slice Ao57 t353.length co57 : Value).ownBlock ∧ some k_ ≠ (.slice Ao62 t355.length co62 : Value).ownBlock ∧ some k_ ≠ (.slice Ao68 t356.length co68 : Value).ownBlock ∧ some k_ ≠ (.slice Ao72 t328.length co72 : Value).ownBlock ∧ some k_ ≠ (.slice Ao79 t331.length co79 : Value).ownBlock) (.slice Ao44 t306.length co44) t306) ∧ (Kd.R (Kd.int .i64) 3 w' w.heap.size (fun k_ => some k_ ≠ (s_.1 : Value).ownBlock ∧ some k_ ≠ (s_.2.1 : Value).ownBlock ∧ some k_ ≠ (s_.2.2.1 : Value).ownBlock ∧ some k_ ≠ (s_.2.2.2.1 : Value).ownBlock ∧ some k_ ≠ (s_.2.2.2.2.1 : Value).ownBlock ∧ some k_ ≠ (s_.2.2.2.2.2.1 : Value).ownBlock ∧ some k_ ≠ (.slice Ao44 t306.length co44 : Value).ownBlock ∧ some k_ ≠ (.slice Ao52 t352.length co52 : Value).ownBlock ∧ some k_ ≠ (.slice Ao57 t353.length co57 : Value).ownBlock ∧ some k_ ≠ (.slice Ao62 t355.length co62 : Value).ownBlock ∧ some k_ ≠ (.slice Ao68 t356.length co68 : Value).ownBlock ∧ some k_ ≠ (.slice Ao72 t328.length co72 : Value).ownBlock ∧ some k_ ≠ (.slice Ao79 t331.length co79 : Value).ownBlock) (.slice Ao46 t309.length co46) t309) ∧ (Kd.R (Kd.int .i64) 3 w' w.heap.size (fun k_ => some k_ ≠ (s_.1 : Value).ownBlock ∧ some k_ ≠ (s_.2.1 : Value).ownBlock ∧ some k_ ≠ (s_.2.2.1 : Value).ownBlock ∧ some k_ ≠ (s_.2.2.2.1 : Value).ownBlock ∧ some k_ ≠ (s_.2.2.2.2.1 : Value).ownBlock ∧ some k_ ≠ (s_.2.2.2.2.2.1 : Value).ownBlock ∧ some k_ ≠ (.slice Ao44 t306.length co44 : Value).ownBlock ∧ some k_ ≠ (.slice Ao46 t309.length co46 : Value).ownBlock ∧ some k_ ≠ (.slice Ao57 t353.length co57 : Value).ownBlock ∧ some k_ ≠ (.slice Ao62 t355.length co62 : Value).ownBlock ∧ some k_ ≠ (.slice Ao68 t356.length co68 : Value).ownBlock ∧ some k_ ≠ (.slice Ao72 t328.length co72 : Value).ownBlock ∧ some k_ ≠ (.slice Ao79 t331.length co79 : Value).ownBlock) (.slice Ao52 t352.length co52) t352) ∧ (Kd.R (Kd.int .i64) 3 w' w.heap.size (fun k_ => some k_ ≠ (s_.1 : Value).ownBlock ∧ some k_ ≠ (s_.2.1 : Value).ownBlock ∧ some k_ ≠ (s_.2.2.1 : Value).ownBlock ∧ some k_ ≠ (s_.2.2.2.1 : Value).ownBlock ∧ some k_ ≠ (s_.2.2.2.2.1 : Value).ownBlock ∧ some k_ ≠ (s_.2.2.2.2.2.1 : Value).ownBlock ∧ some k_ ≠ (.slice Ao44 t306.length co44 : Value).ownBlock ∧ some k_ ≠ (.slice Ao46 t309.length co46 : Value).ownBlock ∧ some k_ ≠ (.slice Ao52 t352.length co52 : Value).ownBlock ∧ some k_ ≠ (.slice Ao62 t355.length co62 : Value).ownBlock ∧ some k_ ≠ (.slice Ao68 t356.length co68 : Value).ownBlock ∧ some k_ ≠ (.slice Ao72 t328.length co72 : Value).ownBlock ∧ some k_ ≠ (.slice Ao79 t331.length co79 : Value).ownBlock) (.slice Ao57 t353.length co57) t353) ∧ (Kd.R (Kd.int .i64) 3 w' w.heap.size (fun k_ => some k_ ≠ (s_.1 : Value).ownBlock ∧ some k_ ≠ (s_.2.1 : Value).ownBlock ∧ some k_ ≠ (s_.2.2.1 : Value).ownBlock ∧ some k_ ≠ (s_.2.2.2.1 : Value).ownBlock ∧ some k_ ≠ (s_.2.2.2.2.1 : Value).ownBlock ∧ some k_ ≠ (s_.2.2.2.2.2.1 : Value).ownBlock ∧ some k_ ≠ (.slice Ao44 t306.length co44 : Value).ownBlock ∧ some k_ ≠ (.slice Ao46 t309.length co46 : Value).ownBlock ∧ some k_ ≠ (.slice Ao52 t352.length co52 : Value).ownBlock ∧ some k_ ≠ (.slice Ao57 t353.length co57 : Value).ownBlock ∧ some k_ ≠ (.slice Ao68 t356.length co68 : Value).ownBlock ∧ some k_ ≠ (.slice Ao72 t328.length co72 : Value).ownBlock ∧ some k_ ≠ (.slice Ao79 t331.length co79 : Value).ownBlock) (.slice Ao62 t355.length co62) t355) ∧ (Kd.R (Kd.int .i64) 3 w' w.heap.size (fun k_ => some k_ ≠ (s_.1 : Value).ownBlock ∧ some k_ ≠ (s_.2.1 : Value).ownBlock ∧ some k_ ≠ (s_.2.2.1 : Value).ownBlock ∧ some k_ ≠ (s_.2.2.2.1 : Value).ownBlock ∧ some k_ ≠ (s_.2.2.2.2.1 : Value).ownBlock ∧ some k_ ≠ (s_.2.2.2.2.2.1 : Value).ownBlock ∧ some k_ ≠ (.slice Ao44 t306.length co44 : Value).ownBlock ∧ some k_ ≠ (.slice Ao46 t309.length co46 : Value).ownBlock ∧ some k_ ≠ (.slice Ao52 t352.length co52 : Value).ownBlock ∧ some k_ ≠ (.slice Ao57 t353.length co57 : Value).ownBlock ∧ some k_ ≠ (.slice Ao62 t355.length co62 : Value).ownBlock ∧ some k_ ≠ (.slice Ao72 t328.length co72 : Value).ownBlock ∧ some k_ ≠ (.slice Ao79 t331.length co79 : Value).ownBlock) (.slice Ao68 t356.length co68) t356) ∧ (Kd.R (Kd.int .i64) 3 w' w.heap.size (fun k_ => some k_ ≠ (s_.1 : Value).ownBlock ∧ some k_ ≠ (s_.2.1 : Value).ownBlock ∧ some k_ ≠ (s_.2.2.1 : Value).ownBlock ∧ some k_ ≠ (s_.2.2.2.1 : Value).ownBlock ∧ some k_ ≠ (s_.2.2.2.2.1 : Value).ownBlock ∧ some k_ ≠ (s_.2.2.2.2.2.1 : Value).ownBlock ∧ some k_ ≠ (.slice Ao44 t306.length co44 : Value).ownBlock ∧ some k_ ≠ (.slice Ao46 t309.length co46 : Value).ownBlock ∧ some k_ ≠ (.slice Ao52 t352.length co52 : Value).ownBlock ∧ some k_ ≠ (.slice Ao57 t353.length co57 : Value).ownBlock ∧ some k_ ≠ (.slice Ao62 t355.length co62 : Value).ownBlock ∧ some k_ ≠ (.slice Ao68 t356.length co68 : Value).ownBlock ∧ some k_ ≠ (.slice Ao79 t331.length co79 : Value).ownBlock) (.slice Ao72 t328.length co72) t359) ∧ (Kd.R (Kd.int .i64) 3 w' w.heap.size (fun k_ => some k_ ≠ (s_.1 : Value).ownBlock ∧ some k_ ≠ (s_.2.1 : Value).ownBlock ∧ some k_ ≠ (s_.2.2.1 : Value).ownBlock ∧ some k_ ≠ (s_.2.2.2.1 : Value).ownBlock ∧ some k_ ≠ (s_.2.2.2.2.1 : Value).ownBlock ∧ some k_ ≠ (s_.2.2.2.2.2.1 : Value).ownBlock ∧ some k_ ≠ (.slice Ao44 t306.length co44 : Value).ownBlock ∧ some k_ ≠ (.slice Ao46 t309.length co46 : Value).ownBlock ∧ some k_ ≠ (.slice Ao52 t352.length co52 : Value).ownBlock ∧ some k_ ≠ (.slice Ao57 t353.length co57 : Value).ownBlock ∧ some k_ ≠ (.slice Ao62 t355.length co62 : Value).ownBlock ∧ some k_ ≠ (.slice Ao68 t356.length co68 : Value).ownBlock ∧ some k_ ≠ (.slice Ao72 t328.length co72 : Value).ownBlock) (.slice Ao79 t331.length co79) t360) ∧ (w'.heap[gb290]? = some (.cells #[.slice A1_0 l1_0.length c1_0, .slice A1_1 l1_1.length c1_1] 24 (0, 0))) ∧ (w'.heap[gb291]? = some (.cells #[.slice A2_0 l2_0.length c2_0, .slice A2_1 l2_1.length c2_1] 24 (0, 0))) ∧ (w'.heap[gb313]? = some (.cells #[.slice Ao44 t306.length co44, .slice Ao46 t309.length co46] 26 (0, 0))) ∧ (w'.heap[gb320]? = some (.cells #[.slice Ao52 t352.length co52, .slice Ao57 t353.length co57] 26 (0, 0))) ∧ (w'.heap[gb327]? = some (.cells #[.slice Ao62 t355.length co62, .slice Ao68 t356.length co68] 26 (0, 0))) ∧ (w'.heap[gb335]? = some (.cells #[.slice Ao72 t328.length co72, .slice Ao79 t331.length co79] 26 (0, 0))) ∧ (w'.heap[s_.2.2.2.2.2.2]? = some (.cells #[.slice none 0 0, .slice none 0 0] 26 (0, 0))) ∧ (w.heap.size ≤ s_.2.2.2.2.2.2) ∧ (w.heap.size ≤ s_.2.2.2.2.2.2) ∧ (gb290 ≠ s_.2.2.2.2.2.2) ∧ (s_.2.2.2.2.2.2 ≠ gb290) ∧ (gb291 ≠ s_.2.2.2.2.2.2) ∧ (s_.2.2.2.2.2.2 ≠ gb291) ∧ (gb313 ≠ s_.2.2.2.2.2.2) ∧ (s_.2.2.2.2.2.2 ≠ gb313) ∧ (gb320 ≠ s_.2.2.2.2.2.2) ∧ (s_.2.2.2.2.2.2 ≠ gb320) ∧ (gb327 ≠ s_.2.2.2.2.2.2) ∧ (s_.2.2.2.2.2.2 ≠ gb327) ∧ (gb335 ≠ s_.2.2.2.2.2.2) ∧ (s_.2.2.2.2.2.2 ≠ gb335) ∧ (Below w.heap.size w w')) ?_ ?_
             rotate_left
             ·
              intro hCont
              refine two_ (i := 2) (j := 9) (Ni := some 101) (Nj := some 17) #[true, true, true, true, false, false, false, false, false, false, false, false] #[true, true, false, true, false, false, false, false, false, true, false, false] rfl rfl rfl rfl (two_of HT_.out (by kernel_rfl)) (by decide) (by decide) (fun K hK => ?_) (fun K hK => ?_)
              ·
               skip
               refine goes_ Try.func7 (by kernel_rfl) rfl #[.agg #[.slice A1_0 l1_0.length c1_0, .slice A1_1 l1_1.length c1_1]] (by rfl) rfl rfl (by (try simp only [List.map_toArray, List.map_cons, List.map_nil]); first | done | rfl | (simp only [List.length_drop, List.length_take]; rfl)) ?_
               with_reducible refine (laws_toArray.calls kj102 _ _ l1_0 _ _ l1_1 t362 t365 _ ?side1 ?side2 ?side3 ?side4 A147.out).mono ?_
               (case side1 => exact cU (Kd.C_below HR1_0.out HB.out))
               (case side2 => exact HC1_0.out)
               (case side3 => exact cU (Kd.C_below HR1_1.out HB.out))
               (case side4 => exact HC1_1.out)
               rintro e w161 ⟨v363, v366, rfl, ho0, ho1, hb⟩
               refine ⟨_, rfl, ?_⟩
               have HO364 := Aside0.mk (Kd.R_lower (Kd.R_new' (Kd.R_new' (Kd.R_new' (Kd.R_new' (Kd.R_new' (Kd.R_new' (Kd.R_new' (Kd.R_new' ho0 (Kd.R_lt (RU HO_314000.out))) (Kd.R_lt (RU HO_314001.out))) (Kd.R_lt (RU HO_321000.out))) (Kd.R_lt (RU HO_321001.out))) (Kd.R_lt (RU HO_328000.out))) (Kd.R_lt (RU HO_328001.out))) (Kd.R_lt (RU HO_336000.out))) (Kd.R_lt (RU HO_336001.out))) (below_size (by repeat (first | (with_reducible first | exact HB.out | apply below_alloc | apply pw_below_drewN | apply below_drew1 | refine below_set ?_ GE290.out | refine below_set ?_ GE291.out | refine below_set ?_ GE313.out | refine below_set ?_ GE320.out | refine below_set ?_ GE327.out | refine below_set ?_ GE335.out) | exact HB.out))))
               have HO367 := Aside0.mk (Kd.R_lower (Kd.R_new' (Kd.R_new' (Kd.R_new' (Kd.R_new' (Kd.R_new' (Kd.R_new' (Kd.R_new' (Kd.R_new' ho1 (Kd.R_lt (RU HO_314000.out))) (Kd.R_lt (RU HO_314001.out))) (Kd.R_lt (RU HO_321000.out))) (Kd.R_lt (RU HO_321001.out))) (Kd.R_lt (RU HO_328000.out))) (Kd.R_lt (RU HO_328001.out))) (Kd.R_lt (RU HO_336000.out))) (Kd.R_lt (RU HO_336001.out))) (below_size (by repeat (first | (with_reducible first | exact HB.out | apply below_alloc | apply pw_below_drewN | apply below_drew1 | refine below_set ?_ GE290.out | refine below_set ?_ GE291.out | refine below_set ?_ GE313.out | refine below_set ?_ GE320.out | refine below_set ?_ GE327.out | refine below_set ?_ GE335.out) | exact HB.out))))
               replace HO_314000 := Aside0.mk (Kd.R_mono (Kd.R_told (Kd.R_told (Kd.R_old (RU HO_314000.out) hb) (Kd.R_base ho0)) (Kd.R_base ho1)) (fun _ h_ => h_.1))
               replace HO_314001 := Aside0.mk (Kd.R_mono (Kd.R_told (Kd.R_told (Kd.R_old (RU HO_314001.out) hb) (Kd.R_base ho0)) (Kd.R_base ho1)) (fun _ h_ => h_.1))
               replace HO_321000 := Aside0.mk (Kd.R_mono (Kd.R_told (Kd.R_told (Kd.R_old (RU HO_321000.out) hb) (Kd.R_base ho0)) (Kd.R_base ho1)) (fun _ h_ => h_.1))
               replace HO_321001 := Aside0.mk (Kd.R_mono (Kd.R_told (Kd.R_told (Kd.R_old (RU HO_321001.out) hb) (Kd.R_base ho0)) (Kd.R_base ho1)) (fun _ h_ => h_.1))
               replace HO_328000 := Aside0.mk (Kd.R_mono (Kd.R_told (Kd.R_told (Kd.R_old (RU HO_328000.out) hb) (Kd.R_base ho0)) (Kd.R_base ho1)) (fun _ h_ => h_.1))
               replace HO_328001 := Aside0.mk (Kd.R_mono (Kd.R_told (Kd.R_told (Kd.R_old (RU HO_328001.out) hb) (Kd.R_base ho0)) (Kd.R_base ho1)) (fun _ h_ => h_.1))
               replace HO_336000 := Aside0.mk (Kd.R_mono (Kd.R_told (Kd.R_told (Kd.R_old (RU HO_336000.out) hb) (Kd.R_base ho0)) (Kd.R_base ho1)) (fun _ h_ => h_.1))
               replace HO_336001 := Aside0.mk (Kd.R_mono (Kd.R_told (Kd.R_told (Kd.R_old (RU HO_336001.out) hb) (Kd.R_base ho0)) (Kd.R_base ho1)) (fun _ h_ => h_.1))
               replace BK290 := Aside0.mk (blk_below (g := gb290) (o := .cells #[.slice A1_0 l1_0.length c1_0, .slice A1_1 l1_1.length c1_1] 24 (0, 0)) (kU BK290.out) hb)
               replace BK291 := Aside0.mk (blk_below (g := gb291) (o := .cells #[.slice A2_0 l2_0.length c2_0, .slice A2_1 l2_1.length c2_1] 24 (0, 0)) (kU BK291.out) hb)
               replace BK313 := Aside0.mk (blk_below (g := gb313) (o := .cells #[.slice Ao44 t306.length co44, .slice Ao46 t309.length co46] 26 (0, 0)) (kU BK313.out) hb)
               replace BK320 := Aside0.mk (blk_below (g := gb320) (o := .cells #[.slice Ao52 t352.length co52, .slice Ao57 t353.length co57] 26 (0, 0)) (kU BK320.out) hb)
               replace BK327 := Aside0.mk (blk_below (g := gb327) (o := .cells #[.slice Ao62 t355.length co62, .slice Ao68 t356.length co68] 26 (0, 0)) (kU BK327.out) hb)
               replace BK335 := Aside0.mk (blk_below (g := gb335) (o := .cells #[.slice Ao72 t328.length co72, .slice Ao79 t331.length co79] 26 (0, 0)) (kU BK335.out) hb)
               replace HB := Aside0.mk (below_step (by repeat (first | (with_reducible first | exact HB.out | apply below_alloc | apply pw_below_drewN | apply below_drew1 | refine below_set ?_ GE290.out | refine below_set ?_ GE291.out | refine below_set ?_ GE313.out | refine below_set ?_ GE320.out | refine below_set ?_ GE327.out | refine below_set ?_ GE335.out) | exact HB.out)) hb)
               (try clear hb)
               (try clear hb2)
               (try clear hk)
               (try clear hi)
               (try clear ho0)
               (try clear ho1)
               refine hK.out _ _ ⟨(blk_cell BK290.out 0).trans rfl, (blk_cell BK290.out 1).trans rfl, (blk_cell BK291.out 0).trans rfl, (blk_cell BK291.out 1).trans rfl⟩ (fun hHeld => ?_)
               clear hK K
               refine norm_ (a' := ?_) ?_ ?_
               rotate_left
               ·
                show Act.put _ (some 101) _ = _
                simp only [Act.put, List.setIfInBounds_toArray, List.set_cons_zero, List.set_cons_succ, i64_w, i32_w]
                rfl
               refine two_ (i := 4) (j := 9) (Ni := some 103) (Nj := some 17) #[true, true, true, true, true, false, false, false, false, false, false, false] #[true, true, true, true, false, false, false, false, false, true, false, false] rfl rfl rfl rfl (two_of HT_.out (by kernel_rfl)) (by decide) (by decide) (fun K hK => ?_) (fun K hK => ?_)
               ·
                skip
                refine goes_ Try.func7 (by kernel_rfl) rfl #[.agg #[.slice A2_0 l2_0.length c2_0, .slice A2_1 l2_1.length c2_1]] (by rfl) rfl rfl (by (try simp only [List.map_toArray, List.map_cons, List.map_nil]); first | done | rfl | (simp only [List.length_drop, List.length_take]; rfl)) ?_
                with_reducible refine (laws_toArray.calls kj102 _ _ l2_0 _ _ l2_1 t368 t371 _ ?side1 ?side2 ?side3 ?side4 A148.out).mono ?_
                (case side1 => exact cU (Kd.C_below HR2_0.out HB.out))
                (case side2 => exact HC2_0.out)
                (case side3 => exact cU (Kd.C_below HR2_1.out HB.out))
                (case side4 => exact HC2_1.out)
                rintro e w162 ⟨v369, v372, rfl, ho0, ho1, hb⟩
                refine ⟨_, rfl, ?_⟩
                have HO370 := Aside0.mk (Kd.R_lower (Kd.R_new' (Kd.R_new' (Kd.R_new' (Kd.R_new' (Kd.R_new' (Kd.R_new' (Kd.R_new' (Kd.R_new' (Kd.R_new' (Kd.R_new' ho0 (Kd.R_lt (RU HO_314000.out))) (Kd.R_lt (RU HO_314001.out))) (Kd.R_lt (RU HO_321000.out))) (Kd.R_lt (RU HO_321001.out))) (Kd.R_lt (RU HO_328000.out))) (Kd.R_lt (RU HO_328001.out))) (Kd.R_lt (RU HO_336000.out))) (Kd.R_lt (RU HO_336001.out))) (Kd.R_lt (RU HO364.out))) (Kd.R_lt (RU HO367.out))) (below_size (by repeat (first | (with_reducible first | exact HB.out | apply below_alloc | apply pw_below_drewN | apply below_drew1 | refine below_set ?_ GE290.out | refine below_set ?_ GE291.out | refine below_set ?_ GE313.out | refine below_set ?_ GE320.out | refine below_set ?_ GE327.out | refine below_set ?_ GE335.out) | exact HB.out))))
                have HO373 := Aside0.mk (Kd.R_lower (Kd.R_new' (Kd.R_new' (Kd.R_new' (Kd.R_new' (Kd.R_new' (Kd.R_new' (Kd.R_new' (Kd.R_new' (Kd.R_new' (Kd.R_new' ho1 (Kd.R_lt (RU HO_314000.out))) (Kd.R_lt (RU HO_314001.out))) (Kd.R_lt (RU HO_321000.out))) (Kd.R_lt (RU HO_321001.out))) (Kd.R_lt (RU HO_328000.out))) (Kd.R_lt (RU HO_328001.out))) (Kd.R_lt (RU HO_336000.out))) (Kd.R_lt (RU HO_336001.out))) (Kd.R_lt (RU HO364.out))) (Kd.R_lt (RU HO367.out))) (below_size (by repeat (first | (with_reducible first | exact HB.out | apply below_alloc | apply pw_below_drewN | apply below_drew1 | refine below_set ?_ GE290.out | refine below_set ?_ GE291.out | refine below_set ?_ GE313.out | refine below_set ?_ GE320.out | refine below_set ?_ GE327.out | refine below_set ?_ GE335.out) | exact HB.out))))
                replace HO_314000 := Aside0.mk (Kd.R_mono (Kd.R_told (Kd.R_told (Kd.R_old (RU HO_314000.out) hb) (Kd.R_base ho0)) (Kd.R_base ho1)) (fun _ h_ => h_.1))
                replace HO_314001 := Aside0.mk (Kd.R_mono (Kd.R_told (Kd.R_told (Kd.R_old (RU HO_314001.out) hb) (Kd.R_base ho0)) (Kd.R_base ho1)) (fun _ h_ => h_.1))
                replace HO_321000 := Aside0.mk (Kd.R_mono (Kd.R_told (Kd.R_told (Kd.R_old (RU HO_321000.out) hb) (Kd.R_base ho0)) (Kd.R_base ho1)) (fun _ h_ => h_.1))
                replace HO_321001 := Aside0.mk (Kd.R_mono (Kd.R_told (Kd.R_told (Kd.R_old (RU HO_321001.out) hb) (Kd.R_base ho0)) (Kd.R_base ho1)) (fun _ h_ => h_.1))
                replace HO_328000 := Aside0.mk (Kd.R_mono (Kd.R_told (Kd.R_told (Kd.R_old (RU HO_328000.out) hb) (Kd.R_base ho0)) (Kd.R_base ho1)) (fun _ h_ => h_.1))
                replace HO_328001 := Aside0.mk (Kd.R_mono (Kd.R_told (Kd.R_told (Kd.R_old (RU HO_328001.out) hb) (Kd.R_base ho0)) (Kd.R_base ho1)) (fun _ h_ => h_.1))
                replace HO_336000 := Aside0.mk (Kd.R_mono (Kd.R_told (Kd.R_told (Kd.R_old (RU HO_336000.out) hb) (Kd.R_base ho0)) (Kd.R_base ho1)) (fun _ h_ => h_.1))
                replace HO_336001 := Aside0.mk (Kd.R_mono (Kd.R_told (Kd.R_told (Kd.R_old (RU HO_336001.out) hb) (Kd.R_base ho0)) (Kd.R_base ho1)) (fun _ h_ => h_.1))
                replace HO364 := Aside0.mk (Kd.R_mono (Kd.R_told (Kd.R_told (Kd.R_old (RU HO364.out) hb) (Kd.R_base ho0)) (Kd.R_base ho1)) (fun _ h_ => h_.1))
                replace HO367 := Aside0.mk (Kd.R_mono (Kd.R_told (Kd.R_told (Kd.R_old (RU HO367.out) hb) (Kd.R_base ho0)) (Kd.R_base ho1)) (fun _ h_ => h_.1))
                replace BK290 := Aside0.mk (blk_below (g := gb290) (o := .cells #[.slice A1_0 l1_0.length c1_0, .slice A1_1 l1_1.length c1_1] 24 (0, 0)) (kU BK290.out) hb)
                replace BK291 := Aside0.mk (blk_below (g := gb291) (o := .cells #[.slice A2_0 l2_0.length c2_0, .slice A2_1 l2_1.length c2_1] 24 (0, 0)) (kU BK291.out) hb)
                replace BK313 := Aside0.mk (blk_below (g := gb313) (o := .cells #[.slice Ao44 t306.length co44, .slice Ao46 t309.length co46] 26 (0, 0)) (kU BK313.out) hb)
                replace BK320 := Aside0.mk (blk_below (g := gb320) (o := .cells #[.slice Ao52 t352.length co52, .slice Ao57 t353.length co57] 26 (0, 0)) (kU BK320.out) hb)
                replace BK327 := Aside0.mk (blk_below (g := gb327) (o := .cells #[.slice Ao62 t355.length co62, .slice Ao68 t356.length co68] 26 (0, 0)) (kU BK327.out) hb)
                replace BK335 := Aside0.mk (blk_below (g := gb335) (o := .cells #[.slice Ao72 t328.length co72, .slice Ao79 t331.length co79] 26 (0, 0)) (kU BK335.out) hb)
                replace HB := Aside0.mk (below_step (by repeat (first | (with_reducible first | exact HB.out | apply below_alloc | apply pw_below_drewN | apply below_drew1 | refine below_set ?_ GE290.out | refine below_set ?_ GE291.out | refine below_set ?_ GE313.out | refine below_set ?_ GE320.out | refine below_set ?_ GE327.out | refine below_set ?_ GE335.out) | exact HB.out)) hb)
                (try clear hb)
                (try clear hb2)
                (try clear hk)
                (try clear hi)
                (try clear ho0)
                (try clear ho1)
                obtain ⟨Ao163, co163, eo163⟩ := Kd.R_slice HO364.out
                (first | subst eo163 | (injection eo163 with f1_ f2_ f3_; have f4_ := f1_.symm; have f5_ := f3_.symm; clear f1_ f2_ f3_; subst f4_; subst f5_))
                obtain ⟨Ao164, co164, eo164⟩ := Kd.R_slice HO367.out
                (first | subst eo164 | (injection eo164 with f1_ f2_ f3_; have f4_ := f1_.symm; have f5_ := f3_.symm; clear f1_ f2_ f3_; subst f4_; subst f5_))
                obtain ⟨Ao165, co165, eo165⟩ := Kd.R_slice HO370.out
                (first | subst eo165 | (injection eo165 with f1_ f2_ f3_; have f4_ := f1_.symm; have f5_ := f3_.symm; clear f1_ f2_ f3_; subst f4_; subst f5_))
                obtain ⟨Ao166, co166, eo166⟩ := Kd.R_slice HO373.out
                (first | subst eo166 | (injection eo166 with f1_ f2_ f3_; have f4_ := f1_.symm; have f5_ := f3_.symm; clear f1_ f2_ f3_; subst f4_; subst f5_))
                refine hK.out _ _ ⟨(blk_cell BK290.out 0).trans rfl, (blk_cell BK290.out 1).trans rfl, (blk_cell BK291.out 0).trans rfl, (blk_cell BK291.out 1).trans rfl⟩ (fun hHeld => ?_)
                clear hK K
                refine norm_ (a' := ?_) ?_ ?_
                rotate_left
                ·
                 show Act.put _ (some 103) _ = _
                 simp only [Act.put, List.setIfInBounds_toArray, List.set_cons_zero, List.set_cons_succ, i64_w, i32_w]
                 rfl
                refine two_ (i := 5) (j := 9) (Ni := some 104) (Nj := some 17) #[true, true, true, true, true, true, false, false, false, false, false, false] #[true, true, true, true, true, false, false, false, false, true, false, false] rfl rfl rfl rfl (two_of HT_.out (by kernel_rfl)) (by decide) (by decide) (fun K hK => ?_) (fun K hK => ?_)
                ·
                 skip
                 refine goes_ Try.func8 (by kernel_rfl) rfl #[.int .i64 a0, .agg #[.slice Ao163 t362.length co163, .slice Ao164 t365.length co164], .agg #[.slice Ao165 t368.length co165, .slice Ao166 t371.length co166]] (by rfl) rfl rfl (by (try simp only [List.map_toArray, List.map_cons, List.map_nil]); first | done | rfl | (simp only [List.length_drop, List.length_take]; rfl)) ?_
                 with_reducible refine (impl_EachTwo.calls kj102 a0 _ _ t362 _ _ t365 _ _ t368 _ _ t371 t374 t377 t380 _ ?side1 ?side2 ?side3 ?side4 ?side5 ?side6 ?side7 ?side8 A149.out).mono ?_
                 (case side1 => exact cU (Kd.R_reads' HO364.out).2.2)
                 (case side2 => exact (Kd.R_reads' HO364.out).2.1)
                 (case side3 => exact cU (Kd.R_reads' HO367.out).2.2)
                 (case side4 => exact (Kd.R_reads' HO367.out).2.1)
                 (case side5 => exact cU (Kd.R_reads' HO370.out).2.2)
                 (case side6 => exact (Kd.R_reads' HO370.out).2.1)
                 (case side7 => exact cU (Kd.R_reads' HO373.out).2.2)
                 (case side8 => exact (Kd.R_reads' HO373.out).2.1)
                 rintro e w167 ⟨v375, v378, rfl, ho0, ho1, hb⟩
                 refine ⟨_, rfl, ?_⟩
                 have HO376 := Aside0.mk (Kd.R_lower (Kd.R_new' (Kd.R_new' (Kd.R_new' (Kd.R_new' (Kd.R_new' (Kd.R_new' (Kd.R_new' (Kd.R_new' (Kd.R_new' (Kd.R_new' (Kd.R_new' (Kd.R_new' ho0 (Kd.R_lt (RU HO_314000.out))) (Kd.R_lt (RU HO_314001.out))) (Kd.R_lt (RU HO_321000.out))) (Kd.R_lt (RU HO_321001.out))) (Kd.R_lt (RU HO_328000.out))) (Kd.R_lt (RU HO_328001.out))) (Kd.R_lt (RU HO_336000.out))) (Kd.R_lt (RU HO_336001.out))) (Kd.R_lt (RU HO364.out))) (Kd.R_lt (RU HO367.out))) (Kd.R_lt (RU HO370.out))) (Kd.R_lt (RU HO373.out))) (below_size (by repeat (first | (with_reducible first | exact HB.out | apply below_alloc | apply pw_below_drewN | apply below_drew1 | refine below_set ?_ GE290.out | refine below_set ?_ GE291.out | refine below_set ?_ GE313.out | refine below_set ?_ GE320.out | refine below_set ?_ GE327.out | refine below_set ?_ GE335.out) | exact HB.out))))
                 have HO379 := Aside0.mk (Kd.R_lower (Kd.R_new' (Kd.R_new' (Kd.R_new' (Kd.R_new' (Kd.R_new' (Kd.R_new' (Kd.R_new' (Kd.R_new' (Kd.R_new' (Kd.R_new' (Kd.R_new' (Kd.R_new' ho1 (Kd.R_lt (RU HO_314000.out))) (Kd.R_lt (RU HO_314001.out))) (Kd.R_lt (RU HO_321000.out))) (Kd.R_lt (RU HO_321001.out))) (Kd.R_lt (RU HO_328000.out))) (Kd.R_lt (RU HO_328001.out))) (Kd.R_lt (RU HO_336000.out))) (Kd.R_lt (RU HO_336001.out))) (Kd.R_lt (RU HO364.out))) (Kd.R_lt (RU HO367.out))) (Kd.R_lt (RU HO370.out))) (Kd.R_lt (RU HO373.out))) (below_size (by repeat (first | (with_reducible first | exact HB.out | apply below_alloc | apply pw_below_drewN | apply below_drew1 | refine below_set ?_ GE290.out | refine below_set ?_ GE291.out | refine below_set ?_ GE313.out | refine below_set ?_ GE320.out | refine below_set ?_ GE327.out | refine below_set ?_ GE335.out) | exact HB.out))))
                 replace HO_314000 := Aside0.mk (Kd.R_mono (Kd.R_told (Kd.R_told (Kd.R_old (RU HO_314000.out) hb) (Kd.R_base ho0)) (Kd.R_base ho1)) (fun _ h_ => h_.1))
                 replace HO_314001 := Aside0.mk (Kd.R_mono (Kd.R_told (Kd.R_told (Kd.R_old (RU HO_314001.out) hb) (Kd.R_base ho0)) (Kd.R_base ho1)) (fun _ h_ => h_.1))
                 replace HO_321000 := Aside0.mk (Kd.R_mono (Kd.R_told (Kd.R_told (Kd.R_old (RU HO_321000.out) hb) (Kd.R_base ho0)) (Kd.R_base ho1)) (fun _ h_ => h_.1))
                 replace HO_321001 := Aside0.mk (Kd.R_mono (Kd.R_told (Kd.R_told (Kd.R_old (RU HO_321001.out) hb) (Kd.R_base ho0)) (Kd.R_base ho1)) (fun _ h_ => h_.1))
                 replace HO_328000 := Aside0.mk (Kd.R_mono (Kd.R_told (Kd.R_told (Kd.R_old (RU HO_328000.out) hb) (Kd.R_base ho0)) (Kd.R_base ho1)) (fun _ h_ => h_.1))
                 replace HO_328001 := Aside0.mk (Kd.R_mono (Kd.R_told (Kd.R_told (Kd.R_old (RU HO_328001.out) hb) (Kd.R_base ho0)) (Kd.R_base ho1)) (fun _ h_ => h_.1))
                 replace HO_336000 := Aside0.mk (Kd.R_mono (Kd.R_told (Kd.R_told (Kd.R_old (RU HO_336000.out) hb) (Kd.R_base ho0)) (Kd.R_base ho1)) (fun _ h_ => h_.1))
                 replace HO_336001 := Aside0.mk (Kd.R_mono (Kd.R_told (Kd.R_told (Kd.R_old (RU HO_336001.out) hb) (Kd.R_base ho0)) (Kd.R_base ho1)) (fun _ h_ => h_.1))
                 replace HO364 := Aside0.mk (Kd.R_mono (Kd.R_told (Kd.R_told (Kd.R_old (RU HO364.out) hb) (Kd.R_base ho0)) (Kd.R_base ho1)) (fun _ h_ => h_.1))
                 replace HO367 := Aside0.mk (Kd.R_mono (Kd.R_told (Kd.R_told (Kd.R_old (RU HO367.out) hb) (Kd.R_base ho0)) (Kd.R_base ho1)) (fun _ h_ => h_.1))
                 replace HO370 := Aside0.mk (Kd.R_mono (Kd.R_told (Kd.R_told (Kd.R_old (RU HO370.out) hb) (Kd.R_base ho0)) (Kd.R_base ho1)) (fun _ h_ => h_.1))
                 replace HO373 := Aside0.mk (Kd.R_mono (Kd.R_told (Kd.R_told (Kd.R_old (RU HO373.out) hb) (Kd.R_base ho0)) (Kd.R_base ho1)) (fun _ h_ => h_.1))
                 replace BK290 := Aside0.mk (blk_below (g := gb290) (o := .cells #[.slice A1_0 l1_0.length c1_0, .slice A1_1 l1_1.length c1_1] 24 (0, 0)) (kU BK290.out) hb)
                 replace BK291 := Aside0.mk (blk_below (g := gb291) (o := .cells #[.slice A2_0 l2_0.length c2_0, .slice A2_1 l2_1.length c2_1] 24 (0, 0)) (kU BK291.out) hb)
                 replace BK313 := Aside0.mk (blk_below (g := gb313) (o := .cells #[.slice Ao44 t306.length co44, .slice Ao46 t309.length co46] 26 (0, 0)) (kU BK313.out) hb)
                 replace BK320 := Aside0.mk (blk_below (g := gb320) (o := .cells #[.slice Ao52 t352.length co52, .slice Ao57 t353.length co57] 26 (0, 0)) (kU BK320.out) hb)
                 replace BK327 := Aside0.mk (blk_below (g := gb327) (o := .cells #[.slice Ao62 t355.length co62, .slice Ao68 t356.length co68] 26 (0, 0)) (kU BK327.out) hb)
                 replace BK335 := Aside0.mk (blk_below (g := gb335) (o := .cells #[.slice Ao72 t328.length co72, .slice Ao79 t331.length co79] 26 (0, 0)) (kU BK335.out) hb)
                 replace HB := Aside0.mk (below_step (by repeat (first | (with_reducible first | exact HB.out | apply below_alloc | apply pw_below_drewN | apply below_drew1 | refine below_set ?_ GE290.out | refine below_set ?_ GE291.out | refine below_set ?_ GE313.out | refine below_set ?_ GE320.out | refine below_set ?_ GE327.out | refine below_set ?_ GE335.out) | exact HB.out)) hb)
                 (try clear hb)
                 (try clear hb2)
                 (try clear hk)
                 (try clear hi)
                 (try clear ho0)
                 (try clear ho1)
                 refine hK.out _ _ ⟨(blk_cell BK290.out 0).trans rfl, (blk_cell BK290.out 1).trans rfl, (blk_cell BK291.out 0).trans rfl, (blk_cell BK291.out 1).trans rfl⟩ (fun hHeld => ?_)
                 clear hK K
                 refine norm_ (a' := ?_) ?_ ?_
                 rotate_left
                 ·
                  show Act.put _ (some 104) _ = _
                  simp only [Act.put, List.setIfInBounds_toArray, List.set_cons_zero, List.set_cons_succ, i64_w, i32_w]
                  rfl
                 refine pure_ (i := 6) (N := some 98) (v := ?_) (a' := ?_) #[true, true, true, true, true, true, true, false, false, false, false, false] rfl rfl (any_of HT_.out (by kernel_rfl)) (fun _ _ _ h => h) (Or.inl ⟨by rfl, ?_⟩) ?_ ?_
                 rotate_left
                 ·
                  intro w'
                  go_simp
                  with_reducible rfl
                 rotate_left
                 ·
                  simp only [Act.put, List.setIfInBounds_toArray, List.set_cons_zero, List.set_cons_succ, i64_w, i32_w]
                  rfl
                 refine pure_ (i := 7) (N := some 105) (v := ?_) (a' := ?_) #[true, true, true, true, true, true, true, true, false, false, false, false] rfl rfl (any_of HT_.out (by kernel_rfl)) (fun _ _ _ h => h) (Or.inl ⟨by rfl, ?_⟩) ?_ ?_
                 rotate_left
                 ·
                  intro w'
                  go_simp
                  with_reducible rfl
                 rotate_left
                 ·
                  simp only [Act.put, List.setIfInBounds_toArray, List.set_cons_zero, List.set_cons_succ, i64_w, i32_w]
                  rfl
                 refine pure_ (i := 8) (N := some 106) (v := ?_) (a' := ?_) #[true, true, true, true, true, true, true, true, true, false, false, false] rfl rfl (any_of HT_.out (by kernel_rfl)) (fun _ _ _ h => h) (Or.inl ⟨by rfl, ?_⟩) ?_ ?_
                 rotate_left
                 ·
                  intro w'
                  go_simp
                  with_reducible rfl
                 rotate_left
                 ·
                  simp only [Act.put, List.setIfInBounds_toArray, List.set_cons_zero, List.set_cons_succ, i64_w, i32_w]
                  rfl
                 refine one_ (i := 9) (N := some 17) #[true, true, true, true, true, true, true, true, true, true, false, false] rfl rfl (one_of HT_.out (by kernel_rfl)) (by decide) (fun K hK => ?_)
                 refine box_step ?hg (N := 17) ?hd (cs := #[.slice none 0 0, .slice none 0 0]) (t := 26) ?hr ?_; (case hd => rfl); (case hg => rfl); (case hr => first | (go_simp; done) | (go_simp; rfl))
                 intro gb381 hg w168 hbox hb
                 replace HO_314000 := Aside0.mk (Kd.R_below (RU HO_314000.out) hb)
                 replace HO_314001 := Aside0.mk (Kd.R_below (RU HO_314001.out) hb)
                 replace HO_321000 := Aside0.mk (Kd.R_below (RU HO_321000.out) hb)
                 replace HO_321001 := Aside0.mk (Kd.R_below (RU HO_321001.out) hb)
                 replace HO_328000 := Aside0.mk (Kd.R_below (RU HO_328000.out) hb)
                 replace HO_328001 := Aside0.mk (Kd.R_below (RU HO_328001.out) hb)
                 replace HO_336000 := Aside0.mk (Kd.R_below (RU HO_336000.out) hb)
                 replace HO_336001 := Aside0.mk (Kd.R_below (RU HO_336001.out) hb)
                 replace HO364 := Aside0.mk (Kd.R_below (RU HO364.out) hb)
                 replace HO367 := Aside0.mk (Kd.R_below (RU HO367.out) hb)
                 replace HO370 := Aside0.mk (Kd.R_below (RU HO370.out) hb)
                 replace HO373 := Aside0.mk (Kd.R_below (RU HO373.out) hb)
                 replace HO376 := Aside0.mk (Kd.R_below (RU HO376.out) hb)
                 replace HO379 := Aside0.mk (Kd.R_below (RU HO379.out) hb)
                 have BK381 := Aside0.mk (hbox)
                 have GW381 := Aside0.mk ((by rw [hg]; exact (below_size (by repeat (first | (with_reducible first | exact HB.out | apply below_alloc | apply pw_below_drewN | apply below_drew1 | refine below_set ?_ GE290.out | refine below_set ?_ GE291.out | refine below_set ?_ GE313.out | refine below_set ?_ GE320.out | refine below_set ?_ GE327.out | refine below_set ?_ GE335.out) | exact HB.out))) : w.heap.size ≤ gb381))
                 have GE381 := Aside0.mk ((by rw [hg]; exact (below_size (by repeat (first | (with_reducible first | exact HB.out | apply below_alloc | apply pw_below_drewN | apply below_drew1 | refine below_set ?_ GE290.out | refine below_set ?_ GE291.out | refine below_set ?_ GE313.out | refine below_set ?_ GE320.out | refine below_set ?_ GE327.out | refine below_set ?_ GE335.out) | exact HB.out))) : w.heap.size ≤ gb381))
                 replace HB := Aside0.mk (below_step (by repeat (first | (with_reducible first | exact HB.out | apply below_alloc | apply pw_below_drewN | apply below_drew1 | refine below_set ?_ GE290.out | refine below_set ?_ GE291.out | refine below_set ?_ GE313.out | refine below_set ?_ GE320.out | refine below_set ?_ GE327.out | refine below_set ?_ GE335.out) | exact HB.out)) hb)
                 have NB290_381 := Aside0.mk ((by rw [hg]; exact Nat.ne_of_lt (blk_lt (g := gb290) (o := .cells #[.slice A1_0 l1_0.length c1_0, .slice A1_1 l1_1.length c1_1] 24 (0, 0)) (kU BK290.out)) : gb290 ≠ gb381))
                 have NB381_290 := Aside0.mk ((by rw [hg]; exact Nat.ne_of_gt (blk_lt (g := gb290) (o := .cells #[.slice A1_0 l1_0.length c1_0, .slice A1_1 l1_1.length c1_1] 24 (0, 0)) (kU BK290.out)) : gb381 ≠ gb290))
                 replace BK290 := Aside0.mk (blk_below (g := gb290) (o := .cells #[.slice A1_0 l1_0.length c1_0, .slice A1_1 l1_1.length c1_1] 24 (0, 0)) (kU BK290.out) hb)
                 have NB291_381 := Aside0.mk ((by rw [hg]; exact Nat.ne_of_lt (blk_lt (g := gb291) (o := .cells #[.slice A2_0 l2_0.length c2_0, .slice A2_1 l2_1.length c2_1] 24 (0, 0)) (kU BK291.out)) : gb291 ≠ gb381))
                 have NB381_291 := Aside0.mk ((by rw [hg]; exact Nat.ne_of_gt (blk_lt (g := gb291) (o := .cells #[.slice A2_0 l2_0.length c2_0, .slice A2_1 l2_1.length c2_1] 24 (0, 0)) (kU BK291.out)) : gb381 ≠ gb291))
                 replace BK291 := Aside0.mk (blk_below (g := gb291) (o := .cells #[.slice A2_0 l2_0.length c2_0, .slice A2_1 l2_1.length c2_1] 24 (0, 0)) (kU BK291.out) hb)
                 have NB313_381 := Aside0.mk ((by rw [hg]; exact Nat.ne_of_lt (blk_lt (g := gb313) (o := .cells #[.slice Ao44 t306.length co44, .slice Ao46 t309.length co46] 26 (0, 0)) (kU BK313.out)) : gb313 ≠ gb381))
                 have NB381_313 := Aside0.mk ((by rw [hg]; exact Nat.ne_of_gt (blk_lt (g := gb313) (o := .cells #[.slice Ao44 t306.length co44, .slice Ao46 t309.length co46] 26 (0, 0)) (kU BK313.out)) : gb381 ≠ gb313))
                 replace BK313 := Aside0.mk (blk_below (g := gb313) (o := .cells #[.slice Ao44 t306.length co44, .slice Ao46 t309.length co46] 26 (0, 0)) (kU BK313.out) hb)
                 have NB320_381 := Aside0.mk ((by rw [hg]; exact Nat.ne_of_lt (blk_lt (g := gb320) (o := .cells #[.slice Ao52 t352.length co52, .slice Ao57 t353.length co57] 26 (0, 0)) (kU BK320.out)) : gb320 ≠ gb381))
                 have NB381_320 := Aside0.mk ((by rw [hg]; exact Nat.ne_of_gt (blk_lt (g := gb320) (o := .cells #[.slice Ao52 t352.length co52, .slice Ao57 t353.length co57] 26 (0, 0)) (kU BK320.out)) : gb381 ≠ gb320))
                 replace BK320 := Aside0.mk (blk_below (g := gb320) (o := .cells #[.slice Ao52 t352.length co52, .slice Ao57 t353.length co57] 26 (0, 0)) (kU BK320.out) hb)
                 have NB327_381 := Aside0.mk ((by rw [hg]; exact Nat.ne_of_lt (blk_lt (g := gb327) (o := .cells #[.slice Ao62 t355.length co62, .slice Ao68 t356.length co68] 26 (0, 0)) (kU BK327.out)) : gb327 ≠ gb381))
                 have NB381_327 := Aside0.mk ((by rw [hg]; exact Nat.ne_of_gt (blk_lt (g := gb327) (o := .cells #[.slice Ao62 t355.length co62, .slice Ao68 t356.length co68] 26 (0, 0)) (kU BK327.out)) : gb381 ≠ gb327))
                 replace BK327 := Aside0.mk (blk_below (g := gb327) (o := .cells #[.slice Ao62 t355.length co62, .slice Ao68 t356.length co68] 26 (0, 0)) (kU BK327.out) hb)
                 have NB335_381 := Aside0.mk ((by rw [hg]; exact Nat.ne_of_lt (blk_lt (g := gb335) (o := .cells #[.slice Ao72 t328.length co72, .slice Ao79 t331.length co79] 26 (0, 0)) (kU BK335.out)) : gb335 ≠ gb381))
                 have NB381_335 := Aside0.mk ((by rw [hg]; exact Nat.ne_of_gt (blk_lt (g := gb335) (o := .cells #[.slice Ao72 t328.length co72, .slice Ao79 t331.length co79] 26 (0, 0)) (kU BK335.out)) : gb381 ≠ gb335))
                 replace BK335 := Aside0.mk (blk_below (g := gb335) (o := .cells #[.slice Ao72 t328.length co72, .slice Ao79 t331.length co79] 26 (0, 0)) (kU BK335.out) hb)
                 clear hb hbox hg
                 refine hK.out _ _ ⟨(blk_cell BK290.out 0).trans rfl, (blk_cell BK290.out 1).trans rfl, (blk_cell BK291.out 0).trans rfl, (blk_cell BK291.out 1).trans rfl⟩ (fun hHeld => ?_)
                 clear hK K
                 refine norm_ (a' := ?_) ?_ ?_
                 rotate_left
                 ·
                  show Act.put _ (some 17) _ = _
                  simp only [Act.put, List.setIfInBounds_toArray, List.set_cons_zero, List.set_cons_succ, i64_w, i32_w]
                  rfl
                 exact norm_ (by simp only [putAll, Act.put, List.setIfInBounds_toArray, List.set_cons_zero, List.set_cons_succ]) (hCont (.slice Ao163 t362.length co163, .slice Ao164 t365.length co164, .slice Ao165 t368.length co165, .slice Ao166 t371.length co166, v375, v378, gb381) _ ⟨hHeld, (by (with_reducible repeat (first | apply Kd.R_alloc | apply Kd.R_drewN | apply Kd.R_drew)); exact Kd.R_mono HO364.out (fun _ hk => ⟨hk.1.1.1.1.1.1.1.1.1.1.1.1, ⟨hk.1.1.1.2, ⟨hk.1.1.2, ⟨hk.1.2, ⟨hk.2, ⟨hk.1.1.1.1.1.1.1.1.1.1.1.2, ⟨hk.1.1.1.1.1.1.1.1.1.1.2, ⟨hk.1.1.1.1.1.1.1.1.1.2, ⟨hk.1.1.1.1.1.1.1.1.2, ⟨hk.1.1.1.1.1.1.1.2, ⟨hk.1.1.1.1.1.1.2, ⟨hk.1.1.1.1.1.2, hk.1.1.1.1.2⟩⟩⟩⟩⟩⟩⟩⟩⟩⟩⟩⟩)), (by (with_reducible repeat (first | apply Kd.R_alloc | apply Kd.R_drewN | apply Kd.R_drew)); exact Kd.R_mono HO367.out (fun _ hk => ⟨hk.1.1.1.1.1.1.1.1.1.1.1.1, ⟨hk.1.1.1.2, ⟨hk.1.1.2, ⟨hk.1.2, ⟨hk.2, ⟨hk.1.1.1.1.1.1.1.1.1.1.1.2, ⟨hk.1.1.1.1.1.1.1.1.1.1.2, ⟨hk.1.1.1.1.1.1.1.1.1.2, ⟨hk.1.1.1.1.1.1.1.1.2, ⟨hk.1.1.1.1.1.1.1.2, ⟨hk.1.1.1.1.1.1.2, ⟨hk.1.1.1.1.1.2, hk.1.1.1.1.2⟩⟩⟩⟩⟩⟩⟩⟩⟩⟩⟩⟩)), (by (with_reducible repeat (first | apply Kd.R_alloc | apply Kd.R_drewN | apply Kd.R_drew)); exact Kd.R_mono HO370.out (fun _ hk => ⟨hk.1.1.1.2, ⟨hk.1.1.2, ⟨hk.1.1.1.1.1.1.1.1.1.1.1.1, ⟨hk.1.2, ⟨hk.2, ⟨hk.1.1.1.1.1.1.1.1.1.1.1.2, ⟨hk.1.1.1.1.1.1.1.1.1.1.2, ⟨hk.1.1.1.1.1.1.1.1.1.2, ⟨hk.1.1.1.1.1.1.1.1.2, ⟨hk.1.1.1.1.1.1.1.2, ⟨hk.1.1.1.1.1.1.2, ⟨hk.1.1.1.1.1.2, hk.1.1.1.1.2⟩⟩⟩⟩⟩⟩⟩⟩⟩⟩⟩⟩)), (by (with_reducible repeat (first | apply Kd.R_alloc | apply Kd.R_drewN | apply Kd.R_drew)); exact Kd.R_mono HO373.out (fun _ hk => ⟨hk.1.1.1.2, ⟨hk.1.1.2, ⟨hk.1.1.1.1.1.1.1.1.1.1.1.1, ⟨hk.1.2, ⟨hk.2, ⟨hk.1.1.1.1.1.1.1.1.1.1.1.2, ⟨hk.1.1.1.1.1.1.1.1.1.1.2, ⟨hk.1.1.1.1.1.1.1.1.1.2, ⟨hk.1.1.1.1.1.1.1.1.2, ⟨hk.1.1.1.1.1.1.1.2, ⟨hk.1.1.1.1.1.1.2, ⟨hk.1.1.1.1.1.2, hk.1.1.1.1.2⟩⟩⟩⟩⟩⟩⟩⟩⟩⟩⟩⟩)), (by (with_reducible repeat (first | apply Kd.R_alloc | apply Kd.R_drewN | apply Kd.R_drew)); exact Kd.R_mono HO376.out (fun _ hk => ⟨hk.1.1.1.2, ⟨hk.1.1.2, ⟨hk.1.2, ⟨hk.2, ⟨hk.1.1.1.1.1.1.1.1.1.1.1.1, ⟨hk.1.1.1.1.1.1.1.1.1.1.1.2, ⟨hk.1.1.1.1.1.1.1.1.1.1.2, ⟨hk.1.1.1.1.1.1.1.1.1.2, ⟨hk.1.1.1.1.1.1.1.1.2, ⟨hk.1.1.1.1.1.1.1.2, ⟨hk.1.1.1.1.1.1.2, ⟨hk.1.1.1.1.1.2, hk.1.1.1.1.2⟩⟩⟩⟩⟩⟩⟩⟩⟩⟩⟩⟩)), (by (with_reducible repeat (first | apply Kd.R_alloc | apply Kd.R_drewN | apply Kd.R_drew)); exact Kd.R_mono HO379.out (fun _ hk => ⟨hk.1.1.1.2, ⟨hk.1.1.2, ⟨hk.1.2, ⟨hk.2, ⟨hk.1.1.1.1.1.1.1.1.1.1.1.1, ⟨hk.1.1.1.1.1.1.1.1.1.1.1.2, ⟨hk.1.1.1.1.1.1.1.1.1.1.2, ⟨hk.1.1.1.1.1.1.1.1.1.2, ⟨hk.1.1.1.1.1.1.1.1.2, ⟨hk.1.1.1.1.1.1.1.2, ⟨hk.1.1.1.1.1.1.2, ⟨hk.1.1.1.1.1.2, hk.1.1.1.1.2⟩⟩⟩⟩⟩⟩⟩⟩⟩⟩⟩⟩)), (by (with_reducible repeat (first | apply Kd.R_alloc | apply Kd.R_drewN | apply Kd.R_drew)); exact Kd.R_mono HO_314000.out (fun _ hk => ⟨hk.1.1.1.1.1.2, ⟨hk.1.1.1.1.2, ⟨hk.1.1.1.2, ⟨hk.1.1.2, ⟨hk.1.2, ⟨hk.2, ⟨hk.1.1.1.1.1.1.1, ⟨hk.1.1.1.1.1.1.2.1, ⟨hk.1.1.1.1.1.1.2.2.1, ⟨hk.1.1.1.1.1.1.2.2.2.1, ⟨hk.1.1.1.1.1.1.2.2.2.2.1, ⟨hk.1.1.1.1.1.1.2.2.2.2.2.1, hk.1.1.1.1.1.1.2.2.2.2.2.2⟩⟩⟩⟩⟩⟩⟩⟩⟩⟩⟩⟩)), (by (with_reducible repeat (first | apply Kd.R_alloc | apply Kd.R_drewN | apply Kd.R_drew)); exact Kd.R_mono HO_314001.out (fun _ hk => ⟨hk.1.1.1.1.1.2, ⟨hk.1.1.1.1.2, ⟨hk.1.1.1.2, ⟨hk.1.1.2, ⟨hk.1.2, ⟨hk.2, ⟨hk.1.1.1.1.1.1.1, ⟨hk.1.1.1.1.1.1.2.1, ⟨hk.1.1.1.1.1.1.2.2.1, ⟨hk.1.1.1.1.1.1.2.2.2.1, ⟨hk.1.1.1.1.1.1.2.2.2.2.1, ⟨hk.1.1.1.1.1.1.2.2.2.2.2.1, hk.1.1.1.1.1.1.2.2.2.2.2.2⟩⟩⟩⟩⟩⟩⟩⟩⟩⟩⟩⟩)), (by (with_reducible repeat (first | apply Kd.R_alloc | apply Kd.R_drewN | apply Kd.R_drew)); exact Kd.R_mono HO_321000.out (fun _ hk => ⟨hk.1.1.1.1.1.2, ⟨hk.1.1.1.1.2, ⟨hk.1.1.1.2, ⟨hk.1.1.2, ⟨hk.1.2, ⟨hk.2, ⟨hk.1.1.1.1.1.1.1, ⟨hk.1.1.1.1.1.1.2.1, ⟨hk.1.1.1.1.1.1.2.2.1, ⟨hk.1.1.1.1.1.1.2.2.2.1, ⟨hk.1.1.1.1.1.1.2.2.2.2.1, ⟨hk.1.1.1.1.1.1.2.2.2.2.2.1, hk.1.1.1.1.1.1.2.2.2.2.2.2⟩⟩⟩⟩⟩⟩⟩⟩⟩⟩⟩⟩)), (by (with_reducible repeat (first | apply Kd.R_alloc | apply Kd.R_drewN | apply Kd.R_drew)); exact Kd.R_mono HO_321001.out (fun _ hk => ⟨hk.1.1.1.1.1.2, ⟨hk.1.1.1.1.2, ⟨hk.1.1.1.2, ⟨hk.1.1.2, ⟨hk.1.2, ⟨hk.2, ⟨hk.1.1.1.1.1.1.1, ⟨hk.1.1.1.1.1.1.2.1, ⟨hk.1.1.1.1.1.1.2.2.1, ⟨hk.1.1.1.1.1.1.2.2.2.1, ⟨hk.1.1.1.1.1.1.2.2.2.2.1, ⟨hk.1.1.1.1.1.1.2.2.2.2.2.1, hk.1.1.1.1.1.1.2.2.2.2.2.2⟩⟩⟩⟩⟩⟩⟩⟩⟩⟩⟩⟩)), (by (with_reducible repeat (first | apply Kd.R_alloc | apply Kd.R_drewN | apply Kd.R_drew)); exact Kd.R_mono HO_328000.out (fun _ hk => ⟨hk.1.1.1.1.1.2, ⟨hk.1.1.1.1.2, ⟨hk.1.1.1.2, ⟨hk.1.1.2, ⟨hk.1.2, ⟨hk.2, ⟨hk.1.1.1.1.1.1.1, ⟨hk.1.1.1.1.1.1.2.1, ⟨hk.1.1.1.1.1.1.2.2.1, ⟨hk.1.1.1.1.1.1.2.2.2.1, ⟨hk.1.1.1.1.1.1.2.2.2.2.1, ⟨hk.1.1.1.1.1.1.2.2.2.2.2.1, hk.1.1.1.1.1.1.2.2.2.2.2.2⟩⟩⟩⟩⟩⟩⟩⟩⟩⟩⟩⟩)), (by (with_reducible repeat (first | apply Kd.R_alloc | apply Kd.R_drewN | apply Kd.R_drew)); exact Kd.R_mono HO_328001.out (fun _ hk => ⟨hk.1.1.1.1.1.2, ⟨hk.1.1.1.1.2, ⟨hk.1.1.1.2, ⟨hk.1.1.2, ⟨hk.1.2, ⟨hk.2, ⟨hk.1.1.1.1.1.1.1, ⟨hk.1.1.1.1.1.1.2.1, ⟨hk.1.1.1.1.1.1.2.2.1, ⟨hk.1.1.1.1.1.1.2.2.2.1, ⟨hk.1.1.1.1.1.1.2.2.2.2.1, ⟨hk.1.1.1.1.1.1.2.2.2.2.2.1, hk.1.1.1.1.1.1.2.2.2.2.2.2⟩⟩⟩⟩⟩⟩⟩⟩⟩⟩⟩⟩)), (by (with_reducible repeat (first | apply Kd.R_alloc | apply Kd.R_drewN | apply Kd.R_drew)); exact Kd.R_mono HO_336000.out (fun _ hk => ⟨hk.1.1.1.1.1.2, ⟨hk.1.1.1.1.2, ⟨hk.1.1.1.2, ⟨hk.1.1.2, ⟨hk.1.2, ⟨hk.2, ⟨hk.1.1.1.1.1.1.1, ⟨hk.1.1.1.1.1.1.2.1, ⟨hk.1.1.1.1.1.1.2.2.1, ⟨hk.1.1.1.1.1.1.2.2.2.1, ⟨hk.1.1.1.1.1.1.2.2.2.2.1, ⟨hk.1.1.1.1.1.1.2.2.2.2.2.1, hk.1.1.1.1.1.1.2.2.2.2.2.2⟩⟩⟩⟩⟩⟩⟩⟩⟩⟩⟩⟩)), (by (with_reducible repeat (first | apply Kd.R_alloc | apply Kd.R_drewN | apply Kd.R_drew)); exact Kd.R_mono HO_336001.out (fun _ hk => ⟨hk.1.1.1.1.1.2, ⟨hk.1.1.1.1.2, ⟨hk.1.1.1.2, ⟨hk.1.1.2, ⟨hk.1.2, ⟨hk.2, ⟨hk.1.1.1.1.1.1.1, ⟨hk.1.1.1.1.1.1.2.1, ⟨hk.1.1.1.1.1.1.2.2.1, ⟨hk.1.1.1.1.1.1.2.2.2.1, ⟨hk.1.1.1.1.1.1.2.2.2.2.1, ⟨hk.1.1.1.1.1.1.2.2.2.2.2.1, hk.1.1.1.1.1.1.2.2.2.2.2.2⟩⟩⟩⟩⟩⟩⟩⟩⟩⟩⟩⟩)), (kU BK290.out), (kU BK291.out), (kU BK313.out), (kU BK320.out), (kU BK327.out), (kU BK335.out), (kU BK381.out), GW381.out, GE381.out, NB290_381.out, NB381_290.out, NB291_381.out, NB381_291.out, NB313_381.out, NB381_313.out, NB320_381.out, NB381_320.out, NB327_381.out, NB381_327.out, NB335_381.out, NB381_335.out, (by repeat (first | (with_reducible first | exact HB.out | apply below_alloc | apply pw_below_drewN | apply below_drew1 | refine below_set ?_ GE290.out | refine below_set ?_ GE291.out | refine below_set ?_ GE313.out | refine below_set ?_ GE320.out | refine below_set ?_ GE327.out | refine below_set ?_ GE335.out | refine below_set ?_ GE381.out) | exact HB.out))⟩)
                ·
                 skip
                 refine box_step ?hg (N := 17) ?hd (cs := #[.slice none 0 0, .slice none 0 0]) (t := 26) ?hr ?_; (case hd => rfl); (case hg => rfl); (case hr => first | (go_simp; done) | (go_simp; rfl))
                 intro gb381 hg w163 hbox hb
                 replace HO_314000 := Aside0.mk (Kd.R_below (RU HO_314000.out) hb)
                 replace HO_314001 := Aside0.mk (Kd.R_below (RU HO_314001.out) hb)
                 replace HO_321000 := Aside0.mk (Kd.R_below (RU HO_321000.out) hb)
                 replace HO_321001 := Aside0.mk (Kd.R_below (RU HO_321001.out) hb)
                 replace HO_328000 := Aside0.mk (Kd.R_below (RU HO_328000.out) hb)
                 replace HO_328001 := Aside0.mk (Kd.R_below (RU HO_328001.out) hb)
                 replace HO_336000 := Aside0.mk (Kd.R_below (RU HO_336000.out) hb)
                 replace HO_336001 := Aside0.mk (Kd.R_below (RU HO_336001.out) hb)
                 replace HO364 := Aside0.mk (Kd.R_below (RU HO364.out) hb)
                 replace HO367 := Aside0.mk (Kd.R_below (RU HO367.out) hb)
                 replace HO370 := Aside0.mk (Kd.R_below (RU HO370.out) hb)
                 replace HO373 := Aside0.mk (Kd.R_below (RU HO373.out) hb)
                 have BK381 := Aside0.mk (hbox)
                 have GW381 := Aside0.mk ((by rw [hg]; exact (below_size (by repeat (first | (with_reducible first | exact HB.out | apply below_alloc | apply pw_below_drewN | apply below_drew1 | refine below_set ?_ GE290.out | refine below_set ?_ GE291.out | refine below_set ?_ GE313.out | refine below_set ?_ GE320.out | refine below_set ?_ GE327.out | refine below_set ?_ GE335.out) | exact HB.out))) : w.heap.size ≤ gb381))
                 have GE381 := Aside0.mk ((by rw [hg]; exact (below_size (by repeat (first | (with_reducible first | exact HB.out | apply below_alloc | apply pw_below_drewN | apply below_drew1 | refine below_set ?_ GE290.out | refine below_set ?_ GE291.out | refine below_set ?_ GE313.out | refine below_set ?_ GE320.out | refine below_set ?_ GE327.out | refine below_set ?_ GE335.out) | exact HB.out))) : w.heap.size ≤ gb381))
                 replace HB := Aside0.mk (below_step (by repeat (first | (with_reducible first | exact HB.out | apply below_alloc | apply pw_below_drewN | apply below_drew1 | refine below_set ?_ GE290.out | refine below_set ?_ GE291.out | refine below_set ?_ GE313.out | refine below_set ?_ GE320.out | refine below_set ?_ GE327.out | refine below_set ?_ GE335.out) | exact HB.out)) hb)
                 have NB290_381 := Aside0.mk ((by rw [hg]; exact Nat.ne_of_lt (blk_lt (g := gb290) (o := .cells #[.slice A1_0 l1_0.length c1_0, .slice A1_1 l1_1.length c1_1] 24 (0, 0)) (kU BK290.out)) : gb290 ≠ gb381))
                 have NB381_290 := Aside0.mk ((by rw [hg]; exact Nat.ne_of_gt (blk_lt (g := gb290) (o := .cells #[.slice A1_0 l1_0.length c1_0, .slice A1_1 l1_1.length c1_1] 24 (0, 0)) (kU BK290.out)) : gb381 ≠ gb290))
                 replace BK290 := Aside0.mk (blk_below (g := gb290) (o := .cells #[.slice A1_0 l1_0.length c1_0, .slice A1_1 l1_1.length c1_1] 24 (0, 0)) (kU BK290.out) hb)
                 have NB291_381 := Aside0.mk ((by rw [hg]; exact Nat.ne_of_lt (blk_lt (g := gb291) (o := .cells #[.slice A2_0 l2_0.length c2_0, .slice A2_1 l2_1.length c2_1] 24 (0, 0)) (kU BK291.out)) : gb291 ≠ gb381))
                 have NB381_291 := Aside0.mk ((by rw [hg]; exact Nat.ne_of_gt (blk_lt (g := gb291) (o := .cells #[.slice A2_0 l2_0.length c2_0, .slice A2_1 l2_1.length c2_1] 24 (0, 0)) (kU BK291.out)) : gb381 ≠ gb291))
                 replace BK291 := Aside0.mk (blk_below (g := gb291) (o := .cells #[.slice A2_0 l2_0.length c2_0, .slice A2_1 l2_1.length c2_1] 24 (0, 0)) (kU BK291.out) hb)
                 have NB313_381 := Aside0.mk ((by rw [hg]; exact Nat.ne_of_lt (blk_lt (g := gb313) (o := .cells #[.slice Ao44 t306.length co44, .slice Ao46 t309.length co46] 26 (0, 0)) (kU BK313.out)) : gb313 ≠ gb381))
                 have NB381_313 := Aside0.mk ((by rw [hg]; exact Nat.ne_of_gt (blk_lt (g := gb313) (o := .cells #[.slice Ao44 t306.length co44, .slice Ao46 t309.length co46] 26 (0, 0)) (kU BK313.out)) : gb381 ≠ gb313))
                 replace BK313 := Aside0.mk (blk_below (g := gb313) (o := .cells #[.slice Ao44 t306.length co44, .slice Ao46 t309.length co46] 26 (0, 0)) (kU BK313.out) hb)
                 have NB320_381 := Aside0.mk ((by rw [hg]; exact Nat.ne_of_lt (blk_lt (g := gb320) (o := .cells #[.slice Ao52 t352.length co52, .slice Ao57 t353.length co57] 26 (0, 0)) (kU BK320.out)) : gb320 ≠ gb381))
                 have NB381_320 := Aside0.mk ((by rw [hg]; exact Nat.ne_of_gt (blk_lt (g := gb320) (o := .cells #[.slice Ao52 t352.length co52, .slice Ao57 t353.length co57] 26 (0, 0)) (kU BK320.out)) : gb381 ≠ gb320))
                 replace BK320 := Aside0.mk (blk_below (g := gb320) (o := .cells #[.slice Ao52 t352.length co52, .slice Ao57 t353.length co57] 26 (0, 0)) (kU BK320.out) hb)
                 have NB327_381 := Aside0.mk ((by rw [hg]; exact Nat.ne_of_lt (blk_lt (g := gb327) (o := .cells #[.slice Ao62 t355.length co62, .slice Ao68 t356.length co68] 26 (0, 0)) (kU BK327.out)) : gb327 ≠ gb381))
                 have NB381_327 := Aside0.mk ((by rw [hg]; exact Nat.ne_of_gt (blk_lt (g := gb327) (o := .cells #[.slice Ao62 t355.length co62, .slice Ao68 t356.length co68] 26 (0, 0)) (kU BK327.out)) : gb381 ≠ gb327))
                 replace BK327 := Aside0.mk (blk_below (g := gb327) (o := .cells #[.slice Ao62 t355.length co62, .slice Ao68 t356.length co68] 26 (0, 0)) (kU BK327.out) hb)
                 have NB335_381 := Aside0.mk ((by rw [hg]; exact Nat.ne_of_lt (blk_lt (g := gb335) (o := .cells #[.slice Ao72 t328.length co72, .slice Ao79 t331.length co79] 26 (0, 0)) (kU BK335.out)) : gb335 ≠ gb381))
                 have NB381_335 := Aside0.mk ((by rw [hg]; exact Nat.ne_of_gt (blk_lt (g := gb335) (o := .cells #[.slice Ao72 t328.length co72, .slice Ao79 t331.length co79] 26 (0, 0)) (kU BK335.out)) : gb381 ≠ gb335))
                 replace BK335 := Aside0.mk (blk_below (g := gb335) (o := .cells #[.slice Ao72 t328.length co72, .slice Ao79 t331.length co79] 26 (0, 0)) (kU BK335.out) hb)
                 clear hb hbox hg
                 obtain ⟨Ao164, co164, eo164⟩ := Kd.R_slice HO364.out
                 (first | subst eo164 | (injection eo164 with f1_ f2_ f3_; have f4_ := f1_.symm; have f5_ := f3_.symm; clear f1_ f2_ f3_; subst f4_; subst f5_))
                 obtain ⟨Ao165, co165, eo165⟩ := Kd.R_slice HO367.out
                 (first | subst eo165 | (injection eo165 with f1_ f2_ f3_; have f4_ := f1_.symm; have f5_ := f3_.symm; clear f1_ f2_ f3_; subst f4_; subst f5_))
                 obtain ⟨Ao166, co166, eo166⟩ := Kd.R_slice HO370.out
                 (first | subst eo166 | (injection eo166 with f1_ f2_ f3_; have f4_ := f1_.symm; have f5_ := f3_.symm; clear f1_ f2_ f3_; subst f4_; subst f5_))
                 obtain ⟨Ao167, co167, eo167⟩ := Kd.R_slice HO373.out
                 (first | subst eo167 | (injection eo167 with f1_ f2_ f3_; have f4_ := f1_.symm; have f5_ := f3_.symm; clear f1_ f2_ f3_; subst f4_; subst f5_))
                 refine hK.out _ _ ⟨(blk_cell BK290.out 0).trans rfl, (blk_cell BK290.out 1).trans rfl, (blk_cell BK291.out 0).trans rfl, (blk_cell BK291.out 1).trans rfl⟩ (fun hHeld => ?_)
                 clear hK K
                 refine norm_ (a' := ?_) ?_ ?_
                 rotate_left
                 ·
                  show Act.put _ (some 17) _ = _
                  simp only [Act.put, List.setIfInBounds_toArray, List.set_cons_zero, List.set_cons_succ, i64_w, i32_w]
                  rfl
                 refine one_ (i := 5) (N := some 104) #[true, true, true, true, true, true, false, false, false, true, false, false] rfl rfl (one_of HT_.out (by kernel_rfl)) (by decide) (fun K hK => ?_)
                 refine goes_ Try.func8 (by kernel_rfl) rfl #[.int .i64 a0, .agg #[.slice Ao164 t362.length co164, .slice Ao165 t365.length co165], .agg #[.slice Ao166 t368.length co166, .slice Ao167 t371.length co167]] (by rfl) rfl rfl (by (try simp only [List.map_toArray, List.map_cons, List.map_nil]); first | done | rfl | (simp only [List.length_drop, List.length_take]; rfl)) ?_
                 with_reducible refine (impl_EachTwo.calls kj102 a0 _ _ t362 _ _ t365 _ _ t368 _ _ t371 t374 t377 t380 _ ?side1 ?side2 ?side3 ?side4 ?side5 ?side6 ?side7 ?side8 A149.out).mono ?_
                 (case side1 => exact cU (Kd.R_reads' HO364.out).2.2)
                 (case side2 => exact (Kd.R_reads' HO364.out).2.1)
                 (case side3 => exact cU (Kd.R_reads' HO367.out).2.2)
                 (case side4 => exact (Kd.R_reads' HO367.out).2.1)
                 (case side5 => exact cU (Kd.R_reads' HO370.out).2.2)
                 (case side6 => exact (Kd.R_reads' HO370.out).2.1)
                 (case side7 => exact cU (Kd.R_reads' HO373.out).2.2)
                 (case side8 => exact (Kd.R_reads' HO373.out).2.1)
                 rintro e w168 ⟨v375, v378, rfl, ho0, ho1, hb⟩
                 refine ⟨_, rfl, ?_⟩
                 have HO376 := Aside0.mk (Kd.R_lower (Kd.R_new' (Kd.R_new' (Kd.R_new' (Kd.R_new' (Kd.R_new' (Kd.R_new' (Kd.R_new' (Kd.R_new' (Kd.R_new' (Kd.R_new' (Kd.R_new' (Kd.R_new' ho0 (Kd.R_lt (RU HO_314000.out))) (Kd.R_lt (RU HO_314001.out))) (Kd.R_lt (RU HO_321000.out))) (Kd.R_lt (RU HO_321001.out))) (Kd.R_lt (RU HO_328000.out))) (Kd.R_lt (RU HO_328001.out))) (Kd.R_lt (RU HO_336000.out))) (Kd.R_lt (RU HO_336001.out))) (Kd.R_lt (RU HO364.out))) (Kd.R_lt (RU HO367.out))) (Kd.R_lt (RU HO370.out))) (Kd.R_lt (RU HO373.out))) (below_size (by repeat (first | (with_reducible first | exact HB.out | apply below_alloc | apply pw_below_drewN | apply below_drew1 | refine below_set ?_ GE290.out | refine below_set ?_ GE291.out | refine below_set ?_ GE313.out | refine below_set ?_ GE320.out | refine below_set ?_ GE327.out | refine below_set ?_ GE335.out | refine below_set ?_ GE381.out) | exact HB.out))))
                 have HO379 := Aside0.mk (Kd.R_lower (Kd.R_new' (Kd.R_new' (Kd.R_new' (Kd.R_new' (Kd.R_new' (Kd.R_new' (Kd.R_new' (Kd.R_new' (Kd.R_new' (Kd.R_new' (Kd.R_new' (Kd.R_new' ho1 (Kd.R_lt (RU HO_314000.out))) (Kd.R_lt (RU HO_314001.out))) (Kd.R_lt (RU HO_321000.out))) (Kd.R_lt (RU HO_321001.out))) (Kd.R_lt (RU HO_328000.out))) (Kd.R_lt (RU HO_328001.out))) (Kd.R_lt (RU HO_336000.out))) (Kd.R_lt (RU HO_336001.out))) (Kd.R_lt (RU HO364.out))) (Kd.R_lt (RU HO367.out))) (Kd.R_lt (RU HO370.out))) (Kd.R_lt (RU HO373.out))) (below_size (by repeat (first | (with_reducible first | exact HB.out | apply below_alloc | apply pw_below_drewN | apply below_drew1 | refine below_set ?_ GE290.out | refine below_set ?_ GE291.out | refine below_set ?_ GE313.out | refine below_set ?_ GE320.out | refine below_set ?_ GE327.out | refine below_set ?_ GE335.out | refine below_set ?_ GE381.out) | exact HB.out))))
                 replace HO_314000 := Aside0.mk (Kd.R_mono (Kd.R_told (Kd.R_told (Kd.R_old (RU HO_314000.out) hb) (Kd.R_base ho0)) (Kd.R_base ho1)) (fun _ h_ => h_.1))
                 replace HO_314001 := Aside0.mk (Kd.R_mono (Kd.R_told (Kd.R_told (Kd.R_old (RU HO_314001.out) hb) (Kd.R_base ho0)) (Kd.R_base ho1)) (fun _ h_ => h_.1))
                 replace HO_321000 := Aside0.mk (Kd.R_mono (Kd.R_told (Kd.R_told (Kd.R_old (RU HO_321000.out) hb) (Kd.R_base ho0)) (Kd.R_base ho1)) (fun _ h_ => h_.1))
                 replace HO_321001 := Aside0.mk (Kd.R_mono (Kd.R_told (Kd.R_told (Kd.R_old (RU HO_321001.out) hb) (Kd.R_base ho0)) (Kd.R_base ho1)) (fun _ h_ => h_.1))
                 replace HO_328000 := Aside0.mk (Kd.R_mono (Kd.R_told (Kd.R_told (Kd.R_old (RU HO_328000.out) hb) (Kd.R_base ho0)) (Kd.R_base ho1)) (fun _ h_ => h_.1))
                 replace HO_328001 := Aside0.mk (Kd.R_mono (Kd.R_told (Kd.R_told (Kd.R_old (RU HO_328001.out) hb) (Kd.R_base ho0)) (Kd.R_base ho1)) (fun _ h_ => h_.1))
                 replace HO_336000 := Aside0.mk (Kd.R_mono (Kd.R_told (Kd.R_told (Kd.R_old (RU HO_336000.out) hb) (Kd.R_base ho0)) (Kd.R_base ho1)) (fun _ h_ => h_.1))
                 replace HO_336001 := Aside0.mk (Kd.R_mono (Kd.R_told (Kd.R_told (Kd.R_old (RU HO_336001.out) hb) (Kd.R_base ho0)) (Kd.R_base ho1)) (fun _ h_ => h_.1))
                 replace HO364 := Aside0.mk (Kd.R_mono (Kd.R_told (Kd.R_told (Kd.R_old (RU HO364.out) hb) (Kd.R_base ho0)) (Kd.R_base ho1)) (fun _ h_ => h_.1))
                 replace HO367 := Aside0.mk (Kd.R_mono (Kd.R_told (Kd.R_told (Kd.R_old (RU HO367.out) hb) (Kd.R_base ho0)) (Kd.R_base ho1)) (fun _ h_ => h_.1))
                 replace HO370 := Aside0.mk (Kd.R_mono (Kd.R_told (Kd.R_told (Kd.R_old (RU HO370.out) hb) (Kd.R_base ho0)) (Kd.R_base ho1)) (fun _ h_ => h_.1))
                 replace HO373 := Aside0.mk (Kd.R_mono (Kd.R_told (Kd.R_told (Kd.R_old (RU HO373.out) hb) (Kd.R_base ho0)) (Kd.R_base ho1)) (fun _ h_ => h_.1))
                 replace BK290 := Aside0.mk (blk_below (g := gb290) (o := .cells #[.slice A1_0 l1_0.length c1_0, .slice A1_1 l1_1.length c1_1] 24 (0, 0)) (kU BK290.out) hb)
                 replace BK291 := Aside0.mk (blk_below (g := gb291) (o := .cells #[.slice A2_0 l2_0.length c2_0, .slice A2_1 l2_1.length c2_1] 24 (0, 0)) (kU BK291.out) hb)
                 replace BK313 := Aside0.mk (blk_below (g := gb313) (o := .cells #[.slice Ao44 t306.length co44, .slice Ao46 t309.length co46] 26 (0, 0)) (kU BK313.out) hb)
                 replace BK320 := Aside0.mk (blk_below (g := gb320) (o := .cells #[.slice Ao52 t352.length co52, .slice Ao57 t353.length co57] 26 (0, 0)) (kU BK320.out) hb)
                 replace BK327 := Aside0.mk (blk_below (g := gb327) (o := .cells #[.slice Ao62 t355.length co62, .slice Ao68 t356.length co68] 26 (0, 0)) (kU BK327.out) hb)
                 replace BK335 := Aside0.mk (blk_below (g := gb335) (o := .cells #[.slice Ao72 t328.length co72, .slice Ao79 t331.length co79] 26 (0, 0)) (kU BK335.out) hb)
                 replace BK381 := Aside0.mk (blk_below (g := gb381) (o := .cells #[.slice none 0 0, .slice none 0 0] 26 (0, 0)) (kU BK381.out) hb)
                 replace HB := Aside0.mk (below_step (by repeat (first | (with_reducible first | exact HB.out | apply below_alloc | apply pw_below_drewN | apply below_drew1 | refine below_set ?_ GE290.out | refine below_set ?_ GE291.out | refine below_set ?_ GE313.out | refine below_set ?_ GE320.out | refine below_set ?_ GE327.out | refine below_set ?_ GE335.out | refine below_set ?_ GE381.out) | exact HB.out)) hb)
                 (try clear hb)
                 (try clear hb2)
                 (try clear hk)
                 (try clear hi)
                 (try clear ho0)
                 (try clear ho1)
                 refine hK.out _ _ ⟨(blk_cell BK290.out 0).trans rfl, (blk_cell BK290.out 1).trans rfl, (blk_cell BK291.out 0).trans rfl, (blk_cell BK291.out 1).trans rfl⟩ (fun hHeld => ?_)
                 clear hK K
                 refine norm_ (a' := ?_) ?_ ?_
                 rotate_left
                 ·
                  show Act.put _ (some 104) _ = _
                  simp only [Act.put, List.setIfInBounds_toArray, List.set_cons_zero, List.set_cons_succ, i64_w, i32_w]
                  rfl
                 refine pure_ (i := 6) (N := some 98) (v := ?_) (a' := ?_) #[true, true, true, true, true, true, true, false, false, true, false, false] rfl rfl (any_of HT_.out (by kernel_rfl)) (fun _ _ _ h => h) (Or.inl ⟨by rfl, ?_⟩) ?_ ?_
                 rotate_left
                 ·
                  intro w'
                  go_simp
                  with_reducible rfl
                 rotate_left
                 ·
                  simp only [Act.put, List.setIfInBounds_toArray, List.set_cons_zero, List.set_cons_succ, i64_w, i32_w]
                  rfl
                 refine pure_ (i := 7) (N := some 105) (v := ?_) (a' := ?_) #[true, true, true, true, true, true, true, true, false, true, false, false] rfl rfl (any_of HT_.out (by kernel_rfl)) (fun _ _ _ h => h) (Or.inl ⟨by rfl, ?_⟩) ?_ ?_
                 rotate_left
                 ·
                  intro w'
                  go_simp
                  with_reducible rfl
                 rotate_left
                 ·
                  simp only [Act.put, List.setIfInBounds_toArray, List.set_cons_zero, List.set_cons_succ, i64_w, i32_w]
                  rfl
                 refine pure_ (i := 8) (N := some 106) (v := ?_) (a' := ?_) #[true, true, true, true, true, true, true, true, true, true, false, false] rfl rfl (any_of HT_.out (by kernel_rfl)) (fun _ _ _ h => h) (Or.inl ⟨by rfl, ?_⟩) ?_ ?_
                 rotate_left
                 ·
                  intro w'
                  go_simp
                  with_reducible rfl
                 rotate_left
                 ·
                  simp only [Act.put, List.setIfInBounds_toArray, List.set_cons_zero, List.set_cons_succ, i64_w, i32_w]
                  rfl
                 exact norm_ (by simp only [putAll, Act.put, List.setIfInBounds_toArray, List.set_cons_zero, List.set_cons_succ]) (hCont (.slice Ao164 t362.length co164, .slice Ao165 t365.length co165, .slice Ao166 t368.length co166, .slice Ao167 t371.length co167, v375, v378, gb381) _ ⟨hHeld, (by (with_reducible repeat (first | apply Kd.R_alloc | apply Kd.R_drewN | apply Kd.R_drew)); exact Kd.R_mono HO364.out (fun _ hk => ⟨hk.1.1.1.1.1.1.1.1.1.1.1.1, ⟨hk.1.1.1.2, ⟨hk.1.1.2, ⟨hk.1.2, ⟨hk.2, ⟨hk.1.1.1.1.1.1.1.1.1.1.1.2, ⟨hk.1.1.1.1.1.1.1.1.1.1.2, ⟨hk.1.1.1.1.1.1.1.1.1.2, ⟨hk.1.1.1.1.1.1.1.1.2, ⟨hk.1.1.1.1.1.1.1.2, ⟨hk.1.1.1.1.1.1.2, ⟨hk.1.1.1.1.1.2, hk.1.1.1.1.2⟩⟩⟩⟩⟩⟩⟩⟩⟩⟩⟩⟩)), (by (with_reducible repeat (first | apply Kd.R_alloc | apply Kd.R_drewN | apply Kd.R_drew)); exact Kd.R_mono HO367.out (fun _ hk => ⟨hk.1.1.1.1.1.1.1.1.1.1.1.1, ⟨hk.1.1.1.2, ⟨hk.1.1.2, ⟨hk.1.2, ⟨hk.2, ⟨hk.1.1.1.1.1.1.1.1.1.1.1.2, ⟨hk.1.1.1.1.1.1.1.1.1.1.2, ⟨hk.1.1.1.1.1.1.1.1.1.2, ⟨hk.1.1.1.1.1.1.1.1.2, ⟨hk.1.1.1.1.1.1.1.2, ⟨hk.1.1.1.1.1.1.2, ⟨hk.1.1.1.1.1.2, hk.1.1.1.1.2⟩⟩⟩⟩⟩⟩⟩⟩⟩⟩⟩⟩)), (by (with_reducible repeat (first | apply Kd.R_alloc | apply Kd.R_drewN | apply Kd.R_drew)); exact Kd.R_mono HO370.out (fun _ hk => ⟨hk.1.1.1.2, ⟨hk.1.1.2, ⟨hk.1.1.1.1.1.1.1.1.1.1.1.1, ⟨hk.1.2, ⟨hk.2, ⟨hk.1.1.1.1.1.1.1.1.1.1.1.2, ⟨hk.1.1.1.1.1.1.1.1.1.1.2, ⟨hk.1.1.1.1.1.1.1.1.1.2, ⟨hk.1.1.1.1.1.1.1.1.2, ⟨hk.1.1.1.1.1.1.1.2, ⟨hk.1.1.1.1.1.1.2, ⟨hk.1.1.1.1.1.2, hk.1.1.1.1.2⟩⟩⟩⟩⟩⟩⟩⟩⟩⟩⟩⟩)), (by (with_reducible repeat (first | apply Kd.R_alloc | apply Kd.R_drewN | apply Kd.R_drew)); exact Kd.R_mono HO373.out (fun _ hk => ⟨hk.1.1.1.2, ⟨hk.1.1.2, ⟨hk.1.1.1.1.1.1.1.1.1.1.1.1, ⟨hk.1.2, ⟨hk.2, ⟨hk.1.1.1.1.1.1.1.1.1.1.1.2, ⟨hk.1.1.1.1.1.1.1.1.1.1.2, ⟨hk.1.1.1.1.1.1.1.1.1.2, ⟨hk.1.1.1.1.1.1.1.1.2, ⟨hk.1.1.1.1.1.1.1.2, ⟨hk.1.1.1.1.1.1.2, ⟨hk.1.1.1.1.1.2, hk.1.1.1.1.2⟩⟩⟩⟩⟩⟩⟩⟩⟩⟩⟩⟩)), (by (with_reducible repeat (first | apply Kd.R_alloc | apply Kd.R_drewN | apply Kd.R_drew)); exact Kd.R_mono HO376.out (fun _ hk => ⟨hk.1.1.1.2, ⟨hk.1.1.2, ⟨hk.1.2, ⟨hk.2, ⟨hk.1.1.1.1.1.1.1.1.1.1.1.1, ⟨hk.1.1.1.1.1.1.1.1.1.1.1.2, ⟨hk.1.1.1.1.1.1.1.1.1.1.2, ⟨hk.1.1.1.1.1.1.1.1.1.2, ⟨hk.1.1.1.1.1.1.1.1.2, ⟨hk.1.1.1.1.1.1.1.2, ⟨hk.1.1.1.1.1.1.2, ⟨hk.1.1.1.1.1.2, hk.1.1.1.1.2⟩⟩⟩⟩⟩⟩⟩⟩⟩⟩⟩⟩)), (by (with_reducible repeat (first | apply Kd.R_alloc | apply Kd.R_drewN | apply Kd.R_drew)); exact Kd.R_mono HO379.out (fun _ hk => ⟨hk.1.1.1.2, ⟨hk.1.1.2, ⟨hk.1.2, ⟨hk.2, ⟨hk.1.1.1.1.1.1.1.1.1.1.1.1, ⟨hk.1.1.1.1.1.1.1.1.1.1.1.2, ⟨hk.1.1.1.1.1.1.1.1.1.1.2, ⟨hk.1.1.1.1.1.1.1.1.1.2, ⟨hk.1.1.1.1.1.1.1.1.2, ⟨hk.1.1.1.1.1.1.1.2, ⟨hk.1.1.1.1.1.1.2, ⟨hk.1.1.1.1.1.2, hk.1.1.1.1.2⟩⟩⟩⟩⟩⟩⟩⟩⟩⟩⟩⟩)), (by (with_reducible repeat (first | apply Kd.R_alloc | apply Kd.R_drewN | apply Kd.R_drew)); exact Kd.R_mono HO_314000.out (fun _ hk => ⟨hk.1.1.1.1.1.2, ⟨hk.1.1.1.1.2, ⟨hk.1.1.1.2, ⟨hk.1.1.2, ⟨hk.1.2, ⟨hk.2, ⟨hk.1.1.1.1.1.1.1, ⟨hk.1.1.1.1.1.1.2.1, ⟨hk.1.1.1.1.1.1.2.2.1, ⟨hk.1.1.1.1.1.1.2.2.2.1, ⟨hk.1.1.1.1.1.1.2.2.2.2.1, ⟨hk.1.1.1.1.1.1.2.2.2.2.2.1, hk.1.1.1.1.1.1.2.2.2.2.2.2⟩⟩⟩⟩⟩⟩⟩⟩⟩⟩⟩⟩)), (by (with_reducible repeat (first | apply Kd.R_alloc | apply Kd.R_drewN | apply Kd.R_drew)); exact Kd.R_mono HO_314001.out (fun _ hk => ⟨hk.1.1.1.1.1.2, ⟨hk.1.1.1.1.2, ⟨hk.1.1.1.2, ⟨hk.1.1.2, ⟨hk.1.2, ⟨hk.2, ⟨hk.1.1.1.1.1.1.1, ⟨hk.1.1.1.1.1.1.2.1, ⟨hk.1.1.1.1.1.1.2.2.1, ⟨hk.1.1.1.1.1.1.2.2.2.1, ⟨hk.1.1.1.1.1.1.2.2.2.2.1, ⟨hk.1.1.1.1.1.1.2.2.2.2.2.1, hk.1.1.1.1.1.1.2.2.2.2.2.2⟩⟩⟩⟩⟩⟩⟩⟩⟩⟩⟩⟩)), (by (with_reducible repeat (first | apply Kd.R_alloc | apply Kd.R_drewN | apply Kd.R_drew)); exact Kd.R_mono HO_321000.out (fun _ hk => ⟨hk.1.1.1.1.1.2, ⟨hk.1.1.1.1.2, ⟨hk.1.1.1.2, ⟨hk.1.1.2, ⟨hk.1.2, ⟨hk.2, ⟨hk.1.1.1.1.1.1.1, ⟨hk.1.1.1.1.1.1.2.1, ⟨hk.1.1.1.1.1.1.2.2.1, ⟨hk.1.1.1.1.1.1.2.2.2.1, ⟨hk.1.1.1.1.1.1.2.2.2.2.1, ⟨hk.1.1.1.1.1.1.2.2.2.2.2.1, hk.1.1.1.1.1.1.2.2.2.2.2.2⟩⟩⟩⟩⟩⟩⟩⟩⟩⟩⟩⟩)), (by (with_reducible repeat (first | apply Kd.R_alloc | apply Kd.R_drewN | apply Kd.R_drew)); exact Kd.R_mono HO_321001.out (fun _ hk => ⟨hk.1.1.1.1.1.2, ⟨hk.1.1.1.1.2, ⟨hk.1.1.1.2, ⟨hk.1.1.2, ⟨hk.1.2, ⟨hk.2, ⟨hk.1.1.1.1.1.1.1, ⟨hk.1.1.1.1.1.1.2.1, ⟨hk.1.1.1.1.1.1.2.2.1, ⟨hk.1.1.1.1.1.1.2.2.2.1, ⟨hk.1.1.1.1.1.1.2.2.2.2.1, ⟨hk.1.1.1.1.1.1.2.2.2.2.2.1, hk.1.1.1.1.1.1.2.2.2.2.2.2⟩⟩⟩⟩⟩⟩⟩⟩⟩⟩⟩⟩)), (by (with_reducible repeat (first | apply Kd.R_alloc | apply Kd.R_drewN | apply Kd.R_drew)); exact Kd.R_mono HO_328000.out (fun _ hk => ⟨hk.1.1.1.1.1.2, ⟨hk.1.1.1.1.2, ⟨hk.1.1.1.2, ⟨hk.1.1.2, ⟨hk.1.2, ⟨hk.2, ⟨hk.1.1.1.1.1.1.1, ⟨hk.1.1.1.1.1.1.2.1, ⟨hk.1.1.1.1.1.1.2.2.1, ⟨hk.1.1.1.1.1.1.2.2.2.1, ⟨hk.1.1.1.1.1.1.2.2.2.2.1, ⟨hk.1.1.1.1.1.1.2.2.2.2.2.1, hk.1.1.1.1.1.1.2.2.2.2.2.2⟩⟩⟩⟩⟩⟩⟩⟩⟩⟩⟩⟩)), (by (with_reducible repeat (first | apply Kd.R_alloc | apply Kd.R_drewN | apply Kd.R_drew)); exact Kd.R_mono HO_328001.out (fun _ hk => ⟨hk.1.1.1.1.1.2, ⟨hk.1.1.1.1.2, ⟨hk.1.1.1.2, ⟨hk.1.1.2, ⟨hk.1.2, ⟨hk.2, ⟨hk.1.1.1.1.1.1.1, ⟨hk.1.1.1.1.1.1.2.1, ⟨hk.1.1.1.1.1.1.2.2.1, ⟨hk.1.1.1.1.1.1.2.2.2.1, ⟨hk.1.1.1.1.1.1.2.2.2.2.1, ⟨hk.1.1.1.1.1.1.2.2.2.2.2.1, hk.1.1.1.1.1.1.2.2.2.2.2.2⟩⟩⟩⟩⟩⟩⟩⟩⟩⟩⟩⟩)), (by (with_reducible repeat (first | apply Kd.R_alloc | apply Kd.R_drewN | apply Kd.R_drew)); exact Kd.R_mono HO_336000.out (fun _ hk => ⟨hk.1.1.1.1.1.2, ⟨hk.1.1.1.1.2, ⟨hk.1.1.1.2, ⟨hk.1.1.2, ⟨hk.1.2, ⟨hk.2, ⟨hk.1.1.1.1.1.1.1, ⟨hk.1.1.1.1.1.1.2.1, ⟨hk.1.1.1.1.1.1.2.2.1, ⟨hk.1.1.1.1.1.1.2.2.2.1, ⟨hk.1.1.1.1.1.1.2.2.2.2.1, ⟨hk.1.1.1.1.1.1.2.2.2.2.2.1, hk.1.1.1.1.1.1.2.2.2.2.2.2⟩⟩⟩⟩⟩⟩⟩⟩⟩⟩⟩⟩)), (by (with_reducible repeat (first | apply Kd.R_alloc | apply Kd.R_drewN | apply Kd.R_drew)); exact Kd.R_mono HO_336001.out (fun _ hk => ⟨hk.1.1.1.1.1.2, ⟨hk.1.1.1.1.2, ⟨hk.1.1.1.2, ⟨hk.1.1.2, ⟨hk.1.2, ⟨hk.2, ⟨hk.1.1.1.1.1.1.1, ⟨hk.1.1.1.1.1.1.2.1, ⟨hk.1.1.1.1.1.1.2.2.1, ⟨hk.1.1.1.1.1.1.2.2.2.1, ⟨hk.1.1.1.1.1.1.2.2.2.2.1, ⟨hk.1.1.1.1.1.1.2.2.2.2.2.1, hk.1.1.1.1.1.1.2.2.2.2.2.2⟩⟩⟩⟩⟩⟩⟩⟩⟩⟩⟩⟩)), (kU BK290.out), (kU BK291.out), (kU BK313.out), (kU BK320.out), (kU BK327.out), (kU BK335.out), (kU BK381.out), GW381.out, GE381.out, NB290_381.out, NB381_290.out, NB291_381.out, NB381_291.out, NB313_381.out, NB381_313.out, NB320_381.out, NB381_320.out, NB327_381.out, NB381_327.out, NB335_381.out, NB381_335.out, (by repeat (first | (with_reducible first | exact HB.out | apply below_alloc | apply pw_below_drewN | apply below_drew1 | refine below_set ?_ GE290.out | refine below_set ?_ GE291.out | refine below_set ?_ GE313.out | refine below_set ?_ GE320.out | refine below_set ?_ GE327.out | refine below_set ?_ GE335.out | refine below_set ?_ GE381.out) | exact HB.out))⟩)
               ·
                skip
                refine box_step ?hg (N := 17) ?hd (cs := #[.slice none 0 0, .slice none 0 0]) (t := 26) ?hr ?_; (case hd => rfl); (case hg => rfl); (case hr => first | (go_simp; done) | (go_simp; rfl))
                intro gb381 hg w162 hbox hb
                replace HO_314000 := Aside0.mk (Kd.R_below (RU HO_314000.out) hb)
                replace HO_314001 := Aside0.mk (Kd.R_below (RU HO_314001.out) hb)
                replace HO_321000 := Aside0.mk (Kd.R_below (RU HO_321000.out) hb)
                replace HO_321001 := Aside0.mk (Kd.R_below (RU HO_321001.out) hb)
                replace HO_328000 := Aside0.mk (Kd.R_below (RU HO_328000.out) hb)
                replace HO_328001 := Aside0.mk (Kd.R_below (RU HO_328001.out) hb)
                replace HO_336000 := Aside0.mk (Kd.R_below (RU HO_336000.out) hb)
                replace HO_336001 := Aside0.mk (Kd.R_below (RU HO_336001.out) hb)
                replace HO364 := Aside0.mk (Kd.R_below (RU HO364.out) hb)
                replace HO367 := Aside0.mk (Kd.R_below (RU HO367.out) hb)
                have BK381 := Aside0.mk (hbox)
                have GW381 := Aside0.mk ((by rw [hg]; exact (below_size (by repeat (first | (with_reducible first | exact HB.out | apply below_alloc | apply pw_below_drewN | apply below_drew1 | refine below_set ?_ GE290.out | refine below_set ?_ GE291.out | refine below_set ?_ GE313.out | refine below_set ?_ GE320.out | refine below_set ?_ GE327.out | refine below_set ?_ GE335.out) | exact HB.out))) : w.heap.size ≤ gb381))
                have GE381 := Aside0.mk ((by rw [hg]; exact (below_size (by repeat (first | (with_reducible first | exact HB.out | apply below_alloc | apply pw_below_drewN | apply below_drew1 | refine below_set ?_ GE290.out | refine below_set ?_ GE291.out | refine below_set ?_ GE313.out | refine below_set ?_ GE320.out | refine below_set ?_ GE327.out | refine below_set ?_ GE335.out) | exact HB.out))) : w.heap.size ≤ gb381))
                replace HB := Aside0.mk (below_step (by repeat (first | (with_reducible first | exact HB.out | apply below_alloc | apply pw_below_drewN | apply below_drew1 | refine below_set ?_ GE290.out | refine below_set ?_ GE291.out | refine below_set ?_ GE313.out | refine below_set ?_ GE320.out | refine below_set ?_ GE327.out | refine below_set ?_ GE335.out) | exact HB.out)) hb)
                have NB290_381 := Aside0.mk ((by rw [hg]; exact Nat.ne_of_lt (blk_lt (g := gb290) (o := .cells #[.slice A1_0 l1_0.length c1_0, .slice A1_1 l1_1.length c1_1] 24 (0, 0)) (kU BK290.out)) : gb290 ≠ gb381))
                have NB381_290 := Aside0.mk ((by rw [hg]; exact Nat.ne_of_gt (blk_lt (g := gb290) (o := .cells #[.slice A1_0 l1_0.length c1_0, .slice A1_1 l1_1.length c1_1] 24 (0, 0)) (kU BK290.out)) : gb381 ≠ gb290))
                replace BK290 := Aside0.mk (blk_below (g := gb290) (o := .cells #[.slice A1_0 l1_0.length c1_0, .slice A1_1 l1_1.length c1_1] 24 (0, 0)) (kU BK290.out) hb)
                have NB291_381 := Aside0.mk ((by rw [hg]; exact Nat.ne_of_lt (blk_lt (g := gb291) (o := .cells #[.slice A2_0 l2_0.length c2_0, .slice A2_1 l2_1.length c2_1] 24 (0, 0)) (kU BK291.out)) : gb291 ≠ gb381))
                have NB381_291 := Aside0.mk ((by rw [hg]; exact Nat.ne_of_gt (blk_lt (g := gb291) (o := .cells #[.slice A2_0 l2_0.length c2_0, .slice A2_1 l2_1.length c2_1] 24 (0, 0)) (kU BK291.out)) : gb381 ≠ gb291))
                replace BK291 := Aside0.mk (blk_below (g := gb291) (o := .cells #[.slice A2_0 l2_0.length c2_0, .slice A2_1 l2_1.length c2_1] 24 (0, 0)) (kU BK291.out) hb)
                have NB313_381 := Aside0.mk ((by rw [hg]; exact Nat.ne_of_lt (blk_lt (g := gb313) (o := .cells #[.slice Ao44 t306.length co44, .slice Ao46 t309.length co46] 26 (0, 0)) (kU BK313.out)) : gb313 ≠ gb381))
                have NB381_313 := Aside0.mk ((by rw [hg]; exact Nat.ne_of_gt (blk_lt (g := gb313) (o := .cells #[.slice Ao44 t306.length co44, .slice Ao46 t309.length co46] 26 (0, 0)) (kU BK313.out)) : gb381 ≠ gb313))
                replace BK313 := Aside0.mk (blk_below (g := gb313) (o := .cells #[.slice Ao44 t306.length co44, .slice Ao46 t309.length co46] 26 (0, 0)) (kU BK313.out) hb)
                have NB320_381 := Aside0.mk ((by rw [hg]; exact Nat.ne_of_lt (blk_lt (g := gb320) (o := .cells #[.slice Ao52 t352.length co52, .slice Ao57 t353.length co57] 26 (0, 0)) (kU BK320.out)) : gb320 ≠ gb381))
                have NB381_320 := Aside0.mk ((by rw [hg]; exact Nat.ne_of_gt (blk_lt (g := gb320) (o := .cells #[.slice Ao52 t352.length co52, .slice Ao57 t353.length co57] 26 (0, 0)) (kU BK320.out)) : gb381 ≠ gb320))
                replace BK320 := Aside0.mk (blk_below (g := gb320) (o := .cells #[.slice Ao52 t352.length co52, .slice Ao57 t353.length co57] 26 (0, 0)) (kU BK320.out) hb)
                have NB327_381 := Aside0.mk ((by rw [hg]; exact Nat.ne_of_lt (blk_lt (g := gb327) (o := .cells #[.slice Ao62 t355.length co62, .slice Ao68 t356.length co68] 26 (0, 0)) (kU BK327.out)) : gb327 ≠ gb381))
                have NB381_327 := Aside0.mk ((by rw [hg]; exact Nat.ne_of_gt (blk_lt (g := gb327) (o := .cells #[.slice Ao62 t355.length co62, .slice Ao68 t356.length co68] 26 (0, 0)) (kU BK327.out)) : gb381 ≠ gb327))
                replace BK327 := Aside0.mk (blk_below (g := gb327) (o := .cells #[.slice Ao62 t355.length co62, .slice Ao68 t356.length co68] 26 (0, 0)) (kU BK327.out) hb)
                have NB335_381 := Aside0.mk ((by rw [hg]; exact Nat.ne_of_lt (blk_lt (g := gb335) (o := .cells #[.slice Ao72 t328.length co72, .slice Ao79 t331.length co79] 26 (0, 0)) (kU BK335.out)) : gb335 ≠ gb381))
                have NB381_335 := Aside0.mk ((by rw [hg]; exact Nat.ne_of_gt (blk_lt (g := gb335) (o := .cells #[.slice Ao72 t328.length co72, .slice Ao79 t331.length co79] 26 (0, 0)) (kU BK335.out)) : gb381 ≠ gb335))
                replace BK335 := Aside0.mk (blk_below (g := gb335) (o := .cells #[.slice Ao72 t328.length co72, .slice Ao79 t331.length co79] 26 (0, 0)) (kU BK335.out) hb)
                clear hb hbox hg
                refine hK.out _ _ ⟨(blk_cell BK290.out 0).trans rfl, (blk_cell BK290.out 1).trans rfl, (blk_cell BK291.out 0).trans rfl, (blk_cell BK291.out 1).trans rfl⟩ (fun hHeld => ?_)
                clear hK K
                refine norm_ (a' := ?_) ?_ ?_
                rotate_left
                ·
                 show Act.put _ (some 17) _ = _
                 simp only [Act.put, List.setIfInBounds_toArray, List.set_cons_zero, List.set_cons_succ, i64_w, i32_w]
                 rfl
                refine one_ (i := 4) (N := some 103) #[true, true, true, true, true, false, false, false, false, true, false, false] rfl rfl (one_of HT_.out (by kernel_rfl)) (by decide) (fun K hK => ?_)
                refine goes_ Try.func7 (by kernel_rfl) rfl #[.agg #[.slice A2_0 l2_0.length c2_0, .slice A2_1 l2_1.length c2_1]] (by rfl) rfl rfl (by (try simp only [List.map_toArray, List.map_cons, List.map_nil]); first | done | rfl | (simp only [List.length_drop, List.length_take]; rfl)) ?_
                with_reducible refine (laws_toArray.calls kj102 _ _ l2_0 _ _ l2_1 t368 t371 _ ?side1 ?side2 ?side3 ?side4 A148.out).mono ?_
                (case side1 => exact cU (Kd.C_below HR2_0.out HB.out))
                (case side2 => exact HC2_0.out)
                (case side3 => exact cU (Kd.C_below HR2_1.out HB.out))
                (case side4 => exact HC2_1.out)
                rintro e w163 ⟨v369, v372, rfl, ho0, ho1, hb⟩
                refine ⟨_, rfl, ?_⟩
                have HO370 := Aside0.mk (Kd.R_lower (Kd.R_new' (Kd.R_new' (Kd.R_new' (Kd.R_new' (Kd.R_new' (Kd.R_new' (Kd.R_new' (Kd.R_new' (Kd.R_new' (Kd.R_new' ho0 (Kd.R_lt (RU HO_314000.out))) (Kd.R_lt (RU HO_314001.out))) (Kd.R_lt (RU HO_321000.out))) (Kd.R_lt (RU HO_321001.out))) (Kd.R_lt (RU HO_328000.out))) (Kd.R_lt (RU HO_328001.out))) (Kd.R_lt (RU HO_336000.out))) (Kd.R_lt (RU HO_336001.out))) (Kd.R_lt (RU HO364.out))) (Kd.R_lt (RU HO367.out))) (below_size (by repeat (first | (with_reducible first | exact HB.out | apply below_alloc | apply pw_below_drewN | apply below_drew1 | refine below_set ?_ GE290.out | refine below_set ?_ GE291.out | refine below_set ?_ GE313.out | refine below_set ?_ GE320.out | refine below_set ?_ GE327.out | refine below_set ?_ GE335.out | refine below_set ?_ GE381.out) | exact HB.out))))
                have HO373 := Aside0.mk (Kd.R_lower (Kd.R_new' (Kd.R_new' (Kd.R_new' (Kd.R_new' (Kd.R_new' (Kd.R_new' (Kd.R_new' (Kd.R_new' (Kd.R_new' (Kd.R_new' ho1 (Kd.R_lt (RU HO_314000.out))) (Kd.R_lt (RU HO_314001.out))) (Kd.R_lt (RU HO_321000.out))) (Kd.R_lt (RU HO_321001.out))) (Kd.R_lt (RU HO_328000.out))) (Kd.R_lt (RU HO_328001.out))) (Kd.R_lt (RU HO_336000.out))) (Kd.R_lt (RU HO_336001.out))) (Kd.R_lt (RU HO364.out))) (Kd.R_lt (RU HO367.out))) (below_size (by repeat (first | (with_reducible first | exact HB.out | apply below_alloc | apply pw_below_drewN | apply below_drew1 | refine below_set ?_ GE290.out | refine below_set ?_ GE291.out | refine below_set ?_ GE313.out | refine below_set ?_ GE320.out | refine below_set ?_ GE327.out | refine below_set ?_ GE335.out | refine below_set ?_ GE381.out) | exact HB.out))))
                replace HO_314000 := Aside0.mk (Kd.R_mono (Kd.R_told (Kd.R_told (Kd.R_old (RU HO_314000.out) hb) (Kd.R_base ho0)) (Kd.R_base ho1)) (fun _ h_ => h_.1))
                replace HO_314001 := Aside0.mk (Kd.R_mono (Kd.R_told (Kd.R_told (Kd.R_old (RU HO_314001.out) hb) (Kd.R_base ho0)) (Kd.R_base ho1)) (fun _ h_ => h_.1))
                replace HO_321000 := Aside0.mk (Kd.R_mono (Kd.R_told (Kd.R_told (Kd.R_old (RU HO_321000.out) hb) (Kd.R_base ho0)) (Kd.R_base ho1)) (fun _ h_ => h_.1))
                replace HO_321001 := Aside0.mk (Kd.R_mono (Kd.R_told (Kd.R_told (Kd.R_old (RU HO_321001.out) hb) (Kd.R_base ho0)) (Kd.R_base ho1)) (fun _ h_ => h_.1))
                replace HO_328000 := Aside0.mk (Kd.R_mono (Kd.R_told (Kd.R_told (Kd.R_old (RU HO_328000.out) hb) (Kd.R_base ho0)) (Kd.R_base ho1)) (fun _ h_ => h_.1))
                replace HO_328001 := Aside0.mk (Kd.R_mono (Kd.R_told (Kd.R_told (Kd.R_old (RU HO_328001.out) hb) (Kd.R_base ho0)) (Kd.R_base ho1)) (fun _ h_ => h_.1))
                replace HO_336000 := Aside0.mk (Kd.R_mono (Kd.R_told (Kd.R_told (Kd.R_old (RU HO_336000.out) hb) (Kd.R_base ho0)) (Kd.R_base ho1)) (fun _ h_ => h_.1))
                replace HO_336001 := Aside0.mk (Kd.R_mono (Kd.R_told (Kd.R_told (Kd.R_old (RU HO_336001.out) hb) (Kd.R_base ho0)) (Kd.R_base ho1)) (fun _ h_ => h_.1))
                replace HO364 := Aside0.mk (Kd.R_mono (Kd.R_told (Kd.R_told (Kd.R_old (RU HO364.out) hb) (Kd.R_base ho0)) (Kd.R_base ho1)) (fun _ h_ => h_.1))
                replace HO367 := Aside0.mk (Kd.R_mono (Kd.R_told (Kd.R_told (Kd.R_old (RU HO367.out) hb) (Kd.R_base ho0)) (Kd.R_base ho1)) (fun _ h_ => h_.1))
                replace BK290 := Aside0.mk (blk_below (g := gb290) (o := .cells #[.slice A1_0 l1_0.length c1_0, .slice A1_1 l1_1.length c1_1] 24 (0, 0)) (kU BK290.out) hb)
                replace BK291 := Aside0.mk (blk_below (g := gb291) (o := .cells #[.slice A2_0 l2_0.length c2_0, .slice A2_1 l2_1.length c2_1] 24 (0, 0)) (kU BK291.out) hb)
                replace BK313 := Aside0.mk (blk_below (g := gb313) (o := .cells #[.slice Ao44 t306.length co44, .slice Ao46 t309.length co46] 26 (0, 0)) (kU BK313.out) hb)
                replace BK320 := Aside0.mk (blk_below (g := gb320) (o := .cells #[.slice Ao52 t352.length co52, .slice Ao57 t353.length co57] 26 (0, 0)) (kU BK320.out) hb)
                replace BK327 := Aside0.mk (blk_below (g := gb327) (o := .cells #[.slice Ao62 t355.length co62, .slice Ao68 t356.length co68] 26 (0, 0)) (kU BK327.out) hb)
                replace BK335 := Aside0.mk (blk_below (g := gb335) (o := .cells #[.slice Ao72 t328.length co72, .slice Ao79 t331.length co79] 26 (0, 0)) (kU BK335.out) hb)
                replace BK381 := Aside0.mk (blk_below (g := gb381) (o := .cells #[.slice none 0 0, .slice none 0 0] 26 (0, 0)) (kU BK381.out) hb)
                replace HB := Aside0.mk (below_step (by repeat (first | (with_reducible first | exact HB.out | apply below_alloc | apply pw_below_drewN | apply below_drew1 | refine below_set ?_ GE290.out | refine below_set ?_ GE291.out | refine below_set ?_ GE313.out | refine below_set ?_ GE320.out | refine below_set ?_ GE327.out | refine below_set ?_ GE335.out | refine below_set ?_ GE381.out) | exact HB.out)) hb)
                (try clear hb)
                (try clear hb2)
                (try clear hk)
                (try clear hi)
                (try clear ho0)
                (try clear ho1)
                obtain ⟨Ao164, co164, eo164⟩ := Kd.R_slice HO364.out
                (first | subst eo164 | (injection eo164 with f1_ f2_ f3_; have f4_ := f1_.symm; have f5_ := f3_.symm; clear f1_ f2_ f3_; subst f4_; subst f5_))
                obtain ⟨Ao165, co165, eo165⟩ := Kd.R_slice HO367.out
                (first | subst eo165 | (injection eo165 with f1_ f2_ f3_; have f4_ := f1_.symm; have f5_ := f3_.symm; clear f1_ f2_ f3_; subst f4_; subst f5_))
                obtain ⟨Ao166, co166, eo166⟩ := Kd.R_slice HO370.out
                (first | subst eo166 | (injection eo166 with f1_ f2_ f3_; have f4_ := f1_.symm; have f5_ := f3_.symm; clear f1_ f2_ f3_; subst f4_; subst f5_))
                obtain ⟨Ao167, co167, eo167⟩ := Kd.R_slice HO373.out
                (first | subst eo167 | (injection eo167 with f1_ f2_ f3_; have f4_ := f1_.symm; have f5_ := f3_.symm; clear f1_ f2_ f3_; subst f4_; subst f5_))
                refine hK.out _ _ ⟨(blk_cell BK290.out 0).trans rfl, (blk_cell BK290.out 1).trans rfl, (blk_cell BK291.out 0).trans rfl, (blk_cell BK291.out 1).trans rfl⟩ (fun hHeld => ?_)
                clear hK K
                refine norm_ (a' := ?_) ?_ ?_
                rotate_left
                ·
                 show Act.put _ (some 103) _ = _
                 simp only [Act.put, List.setIfInBounds_toArray, List.set_cons_zero, List.set_cons_succ, i64_w, i32_w]
                 rfl
                refine one_ (i := 5) (N := some 104) #[true, true, true, true, true, true, false, false, false, true, false, false] rfl rfl (one_of HT_.out (by kernel_rfl)) (by decide) (fun K hK => ?_)
                refine goes_ Try.func8 (by kernel_rfl) rfl #[.int .i64 a0, .agg #[.slice Ao164 t362.length co164, .slice Ao165 t365.length co165], .agg #[.slice Ao166 t368.length co166, .slice Ao167 t371.length co167]] (by rfl) rfl rfl (by (try simp only [List.map_toArray, List.map_cons, List.map_nil]); first | done | rfl | (simp only [List.length_drop, List.length_take]; rfl)) ?_
                with_reducible refine (impl_EachTwo.calls kj102 a0 _ _ t362 _ _ t365 _ _ t368 _ _ t371 t374 t377 t380 _ ?side1 ?side2 ?side3 ?side4 ?side5 ?side6 ?side7 ?side8 A149.out).mono ?_
                (case side1 => exact cU (Kd.R_reads' HO364.out).2.2)
                (case side2 => exact (Kd.R_reads' HO364.out).2.1)
                (case side3 => exact cU (Kd.R_reads' HO367.out).2.2)
                (case side4 => exact (Kd.R_reads' HO367.out).2.1)
                (case side5 => exact cU (Kd.R_reads' HO370.out).2.2)
                (case side6 => exact (Kd.R_reads' HO370.out).2.1)
                (case side7 => exact cU (Kd.R_reads' HO373.out).2.2)
                (case side8 => exact (Kd.R_reads' HO373.out).2.1)
                rintro e w168 ⟨v375, v378, rfl, ho0, ho1, hb⟩
                refine ⟨_, rfl, ?_⟩
                have HO376 := Aside0.mk (Kd.R_lower (Kd.R_new' (Kd.R_new' (Kd.R_new' (Kd.R_new' (Kd.R_new' (Kd.R_new' (Kd.R_new' (Kd.R_new' (Kd.R_new' (Kd.R_new' (Kd.R_new' (Kd.R_new' ho0 (Kd.R_lt (RU HO_314000.out))) (Kd.R_lt (RU HO_314001.out))) (Kd.R_lt (RU HO_321000.out))) (Kd.R_lt (RU HO_321001.out))) (Kd.R_lt (RU HO_328000.out))) (Kd.R_lt (RU HO_328001.out))) (Kd.R_lt (RU HO_336000.out))) (Kd.R_lt (RU HO_336001.out))) (Kd.R_lt (RU HO364.out))) (Kd.R_lt (RU HO367.out))) (Kd.R_lt (RU HO370.out))) (Kd.R_lt (RU HO373.out))) (below_size (by repeat (first | (with_reducible first | exact HB.out | apply below_alloc | apply pw_below_drewN | apply below_drew1 | refine below_set ?_ GE290.out | refine below_set ?_ GE291.out | refine below_set ?_ GE313.out | refine below_set ?_ GE320.out | refine below_set ?_ GE327.out | refine below_set ?_ GE335.out | refine below_set ?_ GE381.out) | exact HB.out))))
                have HO379 := Aside0.mk (Kd.R_lower (Kd.R_new' (Kd.R_new' (Kd.R_new' (Kd.R_new' (Kd.R_new' (Kd.R_new' (Kd.R_new' (Kd.R_new' (Kd.R_new' (Kd.R_new' (Kd.R_new' (Kd.R_new' ho1 (Kd.R_lt (RU HO_314000.out))) (Kd.R_lt (RU HO_314001.out))) (Kd.R_lt (RU HO_321000.out))) (Kd.R_lt (RU HO_321001.out))) (Kd.R_lt (RU HO_328000.out))) (Kd.R_lt (RU HO_328001.out))) (Kd.R_lt (RU HO_336000.out))) (Kd.R_lt (RU HO_336001.out))) (Kd.R_lt (RU HO364.out))) (Kd.R_lt (RU HO367.out))) (Kd.R_lt (RU HO370.out))) (Kd.R_lt (RU HO373.out))) (below_size (by repeat (first | (with_reducible first | exact HB.out | apply below_alloc | apply pw_below_drewN | apply below_drew1 | refine below_set ?_ GE290.out | refine below_set ?_ GE291.out | refine below_set ?_ GE313.out | refine below_set ?_ GE320.out | refine below_set ?_ GE327.out | refine below_set ?_ GE335.out | refine below_set ?_ GE381.out) | exact HB.out))))
                replace HO_314000 := Aside0.mk (Kd.R_mono (Kd.R_told (Kd.R_told (Kd.R_old (RU HO_314000.out) hb) (Kd.R_base ho0)) (Kd.R_base ho1)) (fun _ h_ => h_.1))
                replace HO_314001 := Aside0.mk (Kd.R_mono (Kd.R_told (Kd.R_told (Kd.R_old (RU HO_314001.out) hb) (Kd.R_base ho0)) (Kd.R_base ho1)) (fun _ h_ => h_.1))
                replace HO_321000 := Aside0.mk (Kd.R_mono (Kd.R_told (Kd.R_told (Kd.R_old (RU HO_321000.out) hb) (Kd.R_base ho0)) (Kd.R_base ho1)) (fun _ h_ => h_.1))
                replace HO_321001 := Aside0.mk (Kd.R_mono (Kd.R_told (Kd.R_told (Kd.R_old (RU HO_321001.out) hb) (Kd.R_base ho0)) (Kd.R_base ho1)) (fun _ h_ => h_.1))
                replace HO_328000 := Aside0.mk (Kd.R_mono (Kd.R_told (Kd.R_told (Kd.R_old (RU HO_328000.out) hb) (Kd.R_base ho0)) (Kd.R_base ho1)) (fun _ h_ => h_.1))
                replace HO_328001 := Aside0.mk (Kd.R_mono (Kd.R_told (Kd.R_told (Kd.R_old (RU HO_328001.out) hb) (Kd.R_base ho0)) (Kd.R_base ho1)) (fun _ h_ => h_.1))
                replace HO_336000 := Aside0.mk (Kd.R_mono (Kd.R_told (Kd.R_told (Kd.R_old (RU HO_336000.out) hb) (Kd.R_base ho0)) (Kd.R_base ho1)) (fun _ h_ => h_.1))
                replace HO_336001 := Aside0.mk (Kd.R_mono (Kd.R_told (Kd.R_told (Kd.R_old (RU HO_336001.out) hb) (Kd.R_base ho0)) (Kd.R_base ho1)) (fun _ h_ => h_.1))
                replace HO364 := Aside0.mk (Kd.R_mono (Kd.R_told (Kd.R_told (Kd.R_old (RU HO364.out) hb) (Kd.R_base ho0)) (Kd.R_base ho1)) (fun _ h_ => h_.1))
                replace HO367 := Aside0.mk (Kd.R_mono (Kd.R_told (Kd.R_told (Kd.R_old (RU HO367.out) hb) (Kd.R_base ho0)) (Kd.R_base ho1)) (fun _ h_ => h_.1))
                replace HO370 := Aside0.mk (Kd.R_mono (Kd.R_told (Kd.R_told (Kd.R_old (RU HO370.out) hb) (Kd.R_base ho0)) (Kd.R_base ho1)) (fun _ h_ => h_.1))
                replace HO373 := Aside0.mk (Kd.R_mono (Kd.R_told (Kd.R_told (Kd.R_old (RU HO373.out) hb) (Kd.R_base ho0)) (Kd.R_base ho1)) (fun _ h_ => h_.1))
                replace BK290 := Aside0.mk (blk_below (g := gb290) (o := .cells #[.slice A1_0 l1_0.length c1_0, .slice A1_1 l1_1.length c1_1] 24 (0, 0)) (kU BK290.out) hb)
                replace BK291 := Aside0.mk (blk_below (g := gb291) (o := .cells #[.slice A2_0 l2_0.length c2_0, .slice A2_1 l2_1.length c2_1] 24 (0, 0)) (kU BK291.out) hb)
                replace BK313 := Aside0.mk (blk_below (g := gb313) (o := .cells #[.slice Ao44 t306.length co44, .slice Ao46 t309.length co46] 26 (0, 0)) (kU BK313.out) hb)
                replace BK320 := Aside0.mk (blk_below (g := gb320) (o := .cells #[.slice Ao52 t352.length co52, .slice Ao57 t353.length co57] 26 (0, 0)) (kU BK320.out) hb)
                replace BK327 := Aside0.mk (blk_below (g := gb327) (o := .cells #[.slice Ao62 t355.length co62, .slice Ao68 t356.length co68] 26 (0, 0)) (kU BK327.out) hb)
                replace BK335 := Aside0.mk (blk_below (g := gb335) (o := .cells #[.slice Ao72 t328.length co72, .slice Ao79 t331.length co79] 26 (0, 0)) (kU BK335.out) hb)
                replace BK381 := Aside0.mk (blk_below (g := gb381) (o := .cells #[.slice none 0 0, .slice none 0 0] 26 (0, 0)) (kU BK381.out) hb)
                replace HB := Aside0.mk (below_step (by repeat (first | (with_reducible first | exact HB.out | apply below_alloc | apply pw_below_drewN | apply below_drew1 | refine below_set ?_ GE290.out | refine below_set ?_ GE291.out | refine below_set ?_ GE313.out | refine below_set ?_ GE320.out | refine below_set ?_ GE327.out | refine below_set ?_ GE335.out | refine below_set ?_ GE381.out) | exact HB.out)) hb)
                (try clear hb)
                (try clear hb2)
                (try clear hk)
                (try clear hi)
                (try clear ho0)
                (try clear ho1)
                refine hK.out _ _ ⟨(blk_cell BK290.out 0).trans rfl, (blk_cell BK290.out 1).trans rfl, (blk_cell BK291.out 0).trans rfl, (blk_cell BK291.out 1).trans rfl⟩ (fun hHeld => ?_)
                clear hK K
                refine norm_ (a' := ?_) ?_ ?_
                rotate_left
                ·
                 show Act.put _ (some 104) _ = _
                 simp only [Act.put, List.setIfInBounds_toArray, List.set_cons_zero, List.set_cons_succ, i64_w, i32_w]
                 rfl
                refine pure_ (i := 6) (N := some 98) (v := ?_) (a' := ?_) #[true, true, true, true, true, true, true, false, false, true, false, false] rfl rfl (any_of HT_.out (by kernel_rfl)) (fun _ _ _ h => h) (Or.inl ⟨by rfl, ?_⟩) ?_ ?_
                rotate_left
                ·
                 intro w'
                 go_simp
                 with_reducible rfl
                rotate_left
                ·
                 simp only [Act.put, List.setIfInBounds_toArray, List.set_cons_zero, List.set_cons_succ, i64_w, i32_w]
                 rfl
                refine pure_ (i := 7) (N := some 105) (v := ?_) (a' := ?_) #[true, true, true, true, true, true, true, true, false, true, false, false] rfl rfl (any_of HT_.out (by kernel_rfl)) (fun _ _ _ h => h) (Or.inl ⟨by rfl, ?_⟩) ?_ ?_
                rotate_left
                ·
                 intro w'
                 go_simp
                 with_reducible rfl
                rotate_left
                ·
                 simp only [Act.put, List.setIfInBounds_toArray, List.set_cons_zero, List.set_cons_succ, i64_w, i32_w]
                 rfl
                refine pure_ (i := 8) (N := some 106) (v := ?_) (a' := ?_) #[true, true, true, true, true, true, true, true, true, true, false, false] rfl rfl (any_of HT_.out (by kernel_rfl)) (fun _ _ _ h => h) (Or.inl ⟨by rfl, ?_⟩) ?_ ?_
                rotate_left
                ·
                 intro w'
                 go_simp
                 with_reducible rfl
                rotate_left
                ·
                 simp only [Act.put, List.setIfInBounds_toArray, List.set_cons_zero, List.set_cons_succ, i64_w, i32_w]
                 rfl
                exact norm_ (by simp only [putAll, Act.put, List.setIfInBounds_toArray, List.set_cons_zero, List.set_cons_succ]) (hCont (.slice Ao164 t362.length co164, .slice Ao165 t365.length co165, .slice Ao166 t368.length co166, .slice Ao167 t371.length co167, v375, v378, gb381) _ ⟨hHeld, (by (with_reducible repeat (first | apply Kd.R_alloc | apply Kd.R_drewN | apply Kd.R_drew)); exact Kd.R_mono HO364.out (fun _ hk => ⟨hk.1.1.1.1.1.1.1.1.1.1.1.1, ⟨hk.1.1.1.2, ⟨hk.1.1.2, ⟨hk.1.2, ⟨hk.2, ⟨hk.1.1.1.1.1.1.1.1.1.1.1.2, ⟨hk.1.1.1.1.1.1.1.1.1.1.2, ⟨hk.1.1.1.1.1.1.1.1.1.2, ⟨hk.1.1.1.1.1.1.1.1.2, ⟨hk.1.1.1.1.1.1.1.2, ⟨hk.1.1.1.1.1.1.2, ⟨hk.1.1.1.1.1.2, hk.1.1.1.1.2⟩⟩⟩⟩⟩⟩⟩⟩⟩⟩⟩⟩)), (by (with_reducible repeat (first | apply Kd.R_alloc | apply Kd.R_drewN | apply Kd.R_drew)); exact Kd.R_mono HO367.out (fun _ hk => ⟨hk.1.1.1.1.1.1.1.1.1.1.1.1, ⟨hk.1.1.1.2, ⟨hk.1.1.2, ⟨hk.1.2, ⟨hk.2, ⟨hk.1.1.1.1.1.1.1.1.1.1.1.2, ⟨hk.1.1.1.1.1.1.1.1.1.1.2, ⟨hk.1.1.1.1.1.1.1.1.1.2, ⟨hk.1.1.1.1.1.1.1.1.2, ⟨hk.1.1.1.1.1.1.1.2, ⟨hk.1.1.1.1.1.1.2, ⟨hk.1.1.1.1.1.2, hk.1.1.1.1.2⟩⟩⟩⟩⟩⟩⟩⟩⟩⟩⟩⟩)), (by (with_reducible repeat (first | apply Kd.R_alloc | apply Kd.R_drewN | apply Kd.R_drew)); exact Kd.R_mono HO370.out (fun _ hk => ⟨hk.1.1.1.2, ⟨hk.1.1.2, ⟨hk.1.1.1.1.1.1.1.1.1.1.1.1, ⟨hk.1.2, ⟨hk.2, ⟨hk.1.1.1.1.1.1.1.1.1.1.1.2, ⟨hk.1.1.1.1.1.1.1.1.1.1.2, ⟨hk.1.1.1.1.1.1.1.1.1.2, ⟨hk.1.1.1.1.1.1.1.1.2, ⟨hk.1.1.1.1.1.1.1.2, ⟨hk.1.1.1.1.1.1.2, ⟨hk.1.1.1.1.1.2, hk.1.1.1.1.2⟩⟩⟩⟩⟩⟩⟩⟩⟩⟩⟩⟩)), (by (with_reducible repeat (first | apply Kd.R_alloc | apply Kd.R_drewN | apply Kd.R_drew)); exact Kd.R_mono HO373.out (fun _ hk => ⟨hk.1.1.1.2, ⟨hk.1.1.2, ⟨hk.1.1.1.1.1.1.1.1.1.1.1.1, ⟨hk.1.2, ⟨hk.2, ⟨hk.1.1.1.1.1.1.1.1.1.1.1.2, ⟨hk.1.1.1.1.1.1.1.1.1.1.2, ⟨hk.1.1.1.1.1.1.1.1.1.2, ⟨hk.1.1.1.1.1.1.1.1.2, ⟨hk.1.1.1.1.1.1.1.2, ⟨hk.1.1.1.1.1.1.2, ⟨hk.1.1.1.1.1.2, hk.1.1.1.1.2⟩⟩⟩⟩⟩⟩⟩⟩⟩⟩⟩⟩)), (by (with_reducible repeat (first | apply Kd.R_alloc | apply Kd.R_drewN | apply Kd.R_drew)); exact Kd.R_mono HO376.out (fun _ hk => ⟨hk.1.1.1.2, ⟨hk.1.1.2, ⟨hk.1.2, ⟨hk.2, ⟨hk.1.1.1.1.1.1.1.1.1.1.1.1, ⟨hk.1.1.1.1.1.1.1.1.1.1.1.2, ⟨hk.1.1.1.1.1.1.1.1.1.1.2, ⟨hk.1.1.1.1.1.1.1.1.1.2, ⟨hk.1.1.1.1.1.1.1.1.2, ⟨hk.1.1.1.1.1.1.1.2, ⟨hk.1.1.1.1.1.1.2, ⟨hk.1.1.1.1.1.2, hk.1.1.1.1.2⟩⟩⟩⟩⟩⟩⟩⟩⟩⟩⟩⟩)), (by (with_reducible repeat (first | apply Kd.R_alloc | apply Kd.R_drewN | apply Kd.R_drew)); exact Kd.R_mono HO379.out (fun _ hk => ⟨hk.1.1.1.2, ⟨hk.1.1.2, ⟨hk.1.2, ⟨hk.2, ⟨hk.1.1.1.1.1.1.1.1.1.1.1.1, ⟨hk.1.1.1.1.1.1.1.1.1.1.1.2, ⟨hk.1.1.1.1.1.1.1.1.1.1.2, ⟨hk.1.1.1.1.1.1.1.1.1.2, ⟨hk.1.1.1.1.1.1.1.1.2, ⟨hk.1.1.1.1.1.1.1.2, ⟨hk.1.1.1.1.1.1.2, ⟨hk.1.1.1.1.1.2, hk.1.1.1.1.2⟩⟩⟩⟩⟩⟩⟩⟩⟩⟩⟩⟩)), (by (with_reducible repeat (first | apply Kd.R_alloc | apply Kd.R_drewN | apply Kd.R_drew)); exact Kd.R_mono HO_314000.out (fun _ hk => ⟨hk.1.1.1.1.1.2, ⟨hk.1.1.1.1.2, ⟨hk.1.1.1.2, ⟨hk.1.1.2, ⟨hk.1.2, ⟨hk.2, ⟨hk.1.1.1.1.1.1.1, ⟨hk.1.1.1.1.1.1.2.1, ⟨hk.1.1.1.1.1.1.2.2.1, ⟨hk.1.1.1.1.1.1.2.2.2.1, ⟨hk.1.1.1.1.1.1.2.2.2.2.1, ⟨hk.1.1.1.1.1.1.2.2.2.2.2.1, hk.1.1.1.1.1.1.2.2.2.2.2.2⟩⟩⟩⟩⟩⟩⟩⟩⟩⟩⟩⟩)), (by (with_reducible repeat (first | apply Kd.R_alloc | apply Kd.R_drewN | apply Kd.R_drew)); exact Kd.R_mono HO_314001.out (fun _ hk => ⟨hk.1.1.1.1.1.2, ⟨hk.1.1.1.1.2, ⟨hk.1.1.1.2, ⟨hk.1.1.2, ⟨hk.1.2, ⟨hk.2, ⟨hk.1.1.1.1.1.1.1, ⟨hk.1.1.1.1.1.1.2.1, ⟨hk.1.1.1.1.1.1.2.2.1, ⟨hk.1.1.1.1.1.1.2.2.2.1, ⟨hk.1.1.1.1.1.1.2.2.2.2.1, ⟨hk.1.1.1.1.1.1.2.2.2.2.2.1, hk.1.1.1.1.1.1.2.2.2.2.2.2⟩⟩⟩⟩⟩⟩⟩⟩⟩⟩⟩⟩)), (by (with_reducible repeat (first | apply Kd.R_alloc | apply Kd.R_drewN | apply Kd.R_drew)); exact Kd.R_mono HO_321000.out (fun _ hk => ⟨hk.1.1.1.1.1.2, ⟨hk.1.1.1.1.2, ⟨hk.1.1.1.2, ⟨hk.1.1.2, ⟨hk.1.2, ⟨hk.2, ⟨hk.1.1.1.1.1.1.1, ⟨hk.1.1.1.1.1.1.2.1, ⟨hk.1.1.1.1.1.1.2.2.1, ⟨hk.1.1.1.1.1.1.2.2.2.1, ⟨hk.1.1.1.1.1.1.2.2.2.2.1, ⟨hk.1.1.1.1.1.1.2.2.2.2.2.1, hk.1.1.1.1.1.1.2.2.2.2.2.2⟩⟩⟩⟩⟩⟩⟩⟩⟩⟩⟩⟩)), (by (with_reducible repeat (first | apply Kd.R_alloc | apply Kd.R_drewN | apply Kd.R_drew)); exact Kd.R_mono HO_321001.out (fun _ hk => ⟨hk.1.1.1.1.1.2, ⟨hk.1.1.1.1.2, ⟨hk.1.1.1.2, ⟨hk.1.1.2, ⟨hk.1.2, ⟨hk.2, ⟨hk.1.1.1.1.1.1.1, ⟨hk.1.1.1.1.1.1.2.1, ⟨hk.1.1.1.1.1.1.2.2.1, ⟨hk.1.1.1.1.1.1.2.2.2.1, ⟨hk.1.1.1.1.1.1.2.2.2.2.1, ⟨hk.1.1.1.1.1.1.2.2.2.2.2.1, hk.1.1.1.1.1.1.2.2.2.2.2.2⟩⟩⟩⟩⟩⟩⟩⟩⟩⟩⟩⟩)), (by (with_reducible repeat (first | apply Kd.R_alloc | apply Kd.R_drewN | apply Kd.R_drew)); exact Kd.R_mono HO_328000.out (fun _ hk => ⟨hk.1.1.1.1.1.2, ⟨hk.1.1.1.1.2, ⟨hk.1.1.1.2, ⟨hk.1.1.2, ⟨hk.1.2, ⟨hk.2, ⟨hk.1.1.1.1.1.1.1, ⟨hk.1.1.1.1.1.1.2.1, ⟨hk.1.1.1.1.1.1.2.2.1, ⟨hk.1.1.1.1.1.1.2.2.2.1, ⟨hk.1.1.1.1.1.1.2.2.2.2.1, ⟨hk.1.1.1.1.1.1.2.2.2.2.2.1, hk.1.1.1.1.1.1.2.2.2.2.2.2⟩⟩⟩⟩⟩⟩⟩⟩⟩⟩⟩⟩)), (by (with_reducible repeat (first | apply Kd.R_alloc | apply Kd.R_drewN | apply Kd.R_drew)); exact Kd.R_mono HO_328001.out (fun _ hk => ⟨hk.1.1.1.1.1.2, ⟨hk.1.1.1.1.2, ⟨hk.1.1.1.2, ⟨hk.1.1.2, ⟨hk.1.2, ⟨hk.2, ⟨hk.1.1.1.1.1.1.1, ⟨hk.1.1.1.1.1.1.2.1, ⟨hk.1.1.1.1.1.1.2.2.1, ⟨hk.1.1.1.1.1.1.2.2.2.1, ⟨hk.1.1.1.1.1.1.2.2.2.2.1, ⟨hk.1.1.1.1.1.1.2.2.2.2.2.1, hk.1.1.1.1.1.1.2.2.2.2.2.2⟩⟩⟩⟩⟩⟩⟩⟩⟩⟩⟩⟩)), (by (with_reducible repeat (first | apply Kd.R_alloc | apply Kd.R_drewN | apply Kd.R_drew)); exact Kd.R_mono HO_336000.out (fun _ hk => ⟨hk.1.1.1.1.1.2, ⟨hk.1.1.1.1.2, ⟨hk.1.1.1.2, ⟨hk.1.1.2, ⟨hk.1.2, ⟨hk.2, ⟨hk.1.1.1.1.1.1.1, ⟨hk.1.1.1.1.1.1.2.1, ⟨hk.1.1.1.1.1.1.2.2.1, ⟨hk.1.1.1.1.1.1.2.2.2.1, ⟨hk.1.1.1.1.1.1.2.2.2.2.1, ⟨hk.1.1.1.1.1.1.2.2.2.2.2.1, hk.1.1.1.1.1.1.2.2.2.2.2.2⟩⟩⟩⟩⟩⟩⟩⟩⟩⟩⟩⟩)), (by (with_reducible repeat (first | apply Kd.R_alloc | apply Kd.R_drewN | apply Kd.R_drew)); exact Kd.R_mono HO_336001.out (fun _ hk => ⟨hk.1.1.1.1.1.2, ⟨hk.1.1.1.1.2, ⟨hk.1.1.1.2, ⟨hk.1.1.2, ⟨hk.1.2, ⟨hk.2, ⟨hk.1.1.1.1.1.1.1, ⟨hk.1.1.1.1.1.1.2.1, ⟨hk.1.1.1.1.1.1.2.2.1, ⟨hk.1.1.1.1.1.1.2.2.2.1, ⟨hk.1.1.1.1.1.1.2.2.2.2.1, ⟨hk.1.1.1.1.1.1.2.2.2.2.2.1, hk.1.1.1.1.1.1.2.2.2.2.2.2⟩⟩⟩⟩⟩⟩⟩⟩⟩⟩⟩⟩)), (kU BK290.out), (kU BK291.out), (kU BK313.out), (kU BK320.out), (kU BK327.out), (kU BK335.out), (kU BK381.out), GW381.out, GE381.out, NB290_381.out, NB381_290.out, NB291_381.out, NB381_291.out, NB313_381.out, NB381_313.out, NB320_381.out, NB381_320.out, NB327_381.out, NB381_327.out, NB335_381.out, NB381_335.out, (by repeat (first | (with_reducible first | exact HB.out | apply below_alloc | apply pw_below_drewN | apply below_drew1 | refine below_set ?_ GE290.out | refine below_set ?_ GE291.out | refine below_set ?_ GE313.out | refine below_set ?_ GE320.out | refine below_set ?_ GE327.out | refine below_set ?_ GE335.out | refine below_set ?_ GE381.out) | exact HB.out))⟩)
              ·
               skip
               refine box_step ?hg (N := 17) ?hd (cs := #[.slice none 0 0, .slice none 0 0]) (t := 26) ?hr ?_; (case hd => rfl); (case hg => rfl); (case hr => first | (go_simp; done) | (go_simp; rfl))
               intro gb381 hg w161 hbox hb
               replace HO_314000 := Aside0.mk (Kd.R_below (RU HO_314000.out) hb)
               replace HO_314001 := Aside0.mk (Kd.R_below (RU HO_314001.out) hb)
               replace HO_321000 := Aside0.mk (Kd.R_below (RU HO_321000.out) hb)
               replace HO_321001 := Aside0.mk (Kd.R_below (RU HO_321001.out) hb)
               replace HO_328000 := Aside0.mk (Kd.R_below (RU HO_328000.out) hb)
               replace HO_328001 := Aside0.mk (Kd.R_below (RU HO_328001.out) hb)
               replace HO_336000 := Aside0.mk (Kd.R_below (RU HO_336000.out) hb)
               replace HO_336001 := Aside0.mk (Kd.R_below (RU HO_336001.out) hb)
               have BK381 := Aside0.mk (hbox)
               have GW381 := Aside0.mk ((by rw [hg]; exact (below_size (by repeat (first | (with_reducible first | exact HB.out | apply below_alloc | apply pw_below_drewN | apply below_drew1 | refine below_set ?_ GE290.out | refine below_set ?_ GE291.out | refine below_set ?_ GE313.out | refine below_set ?_ GE320.out | refine below_set ?_ GE327.out | refine below_set ?_ GE335.out) | exact HB.out))) : w.heap.size ≤ gb381))
               have GE381 := Aside0.mk ((by rw [hg]; exact (below_size (by repeat (first | (with_reducible first | exact HB.out | apply below_alloc | apply pw_below_drewN | apply below_drew1 | refine below_set ?_ GE290.out | refine below_set ?_ GE291.out | refine below_set ?_ GE313.out | refine below_set ?_ GE320.out | refine below_set ?_ GE327.out | refine below_set ?_ GE335.out) | exact HB.out))) : w.heap.size ≤ gb381))
               replace HB := Aside0.mk (below_step (by repeat (first | (with_reducible first | exact HB.out | apply below_alloc | apply pw_below_drewN | apply below_drew1 | refine below_set ?_ GE290.out | refine below_set ?_ GE291.out | refine below_set ?_ GE313.out | refine below_set ?_ GE320.out | refine below_set ?_ GE327.out | refine below_set ?_ GE335.out) | exact HB.out)) hb)
               have NB290_381 := Aside0.mk ((by rw [hg]; exact Nat.ne_of_lt (blk_lt (g := gb290) (o := .cells #[.slice A1_0 l1_0.length c1_0, .slice A1_1 l1_1.length c1_1] 24 (0, 0)) (kU BK290.out)) : gb290 ≠ gb381))
               have NB381_290 := Aside0.mk ((by rw [hg]; exact Nat.ne_of_gt (blk_lt (g := gb290) (o := .cells #[.slice A1_0 l1_0.length c1_0, .slice A1_1 l1_1.length c1_1] 24 (0, 0)) (kU BK290.out)) : gb381 ≠ gb290))
               replace BK290 := Aside0.mk (blk_below (g := gb290) (o := .cells #[.slice A1_0 l1_0.length c1_0, .slice A1_1 l1_1.length c1_1] 24 (0, 0)) (kU BK290.out) hb)
               have NB291_381 := Aside0.mk ((by rw [hg]; exact Nat.ne_of_lt (blk_lt (g := gb291) (o := .cells #[.slice A2_0 l2_0.length c2_0, .slice A2_1 l2_1.length c2_1] 24 (0, 0)) (kU BK291.out)) : gb291 ≠ gb381))
               have NB381_291 := Aside0.mk ((by rw [hg]; exact Nat.ne_of_gt (blk_lt (g := gb291) (o := .cells #[.slice A2_0 l2_0.length c2_0, .slice A2_1 l2_1.length c2_1] 24 (0, 0)) (kU BK291.out)) : gb381 ≠ gb291))
               replace BK291 := Aside0.mk (blk_below (g := gb291) (o := .cells #[.slice A2_0 l2_0.length c2_0, .slice A2_1 l2_1.length c2_1] 24 (0, 0)) (kU BK291.out) hb)
               have NB313_381 := Aside0.mk ((by rw [hg]; exact Nat.ne_of_lt (blk_lt (g := gb313) (o := .cells #[.slice Ao44 t306.length co44, .slice Ao46 t309.length co46] 26 (0, 0)) (kU BK313.out)) : gb313 ≠ gb381))
               have NB381_313 := Aside0.mk ((by rw [hg]; exact Nat.ne_of_gt (blk_lt (g := gb313) (o := .cells #[.slice Ao44 t306.length co44, .slice Ao46 t309.length co46] 26 (0, 0)) (kU BK313.out)) : gb381 ≠ gb313))
               replace BK313 := Aside0.mk (blk_below (g := gb313) (o := .cells #[.slice Ao44 t306.length co44, .slice Ao46 t309.length co46] 26 (0, 0)) (kU BK313.out) hb)
               have NB320_381 := Aside0.mk ((by rw [hg]; exact Nat.ne_of_lt (blk_lt (g := gb320) (o := .cells #[.slice Ao52 t352.length co52, .slice Ao57 t353.length co57] 26 (0, 0)) (kU BK320.out)) : gb320 ≠ gb381))
               have NB381_320 := Aside0.mk ((by rw [hg]; exact Nat.ne_of_gt (blk_lt (g := gb320) (o := .cells #[.slice Ao52 t352.length co52, .slice Ao57 t353.length co57] 26 (0, 0)) (kU BK320.out)) : gb381 ≠ gb320))
               replace BK320 := Aside0.mk (blk_below (g := gb320) (o := .cells #[.slice Ao52 t352.length co52, .slice Ao57 t353.length co57] 26 (0, 0)) (kU BK320.out) hb)
               have NB327_381 := Aside0.mk ((by rw [hg]; exact Nat.ne_of_lt (blk_lt (g := gb327) (o := .cells #[.slice Ao62 t355.length co62, .slice Ao68 t356.length co68] 26 (0, 0)) (kU BK327.out)) : gb327 ≠ gb381))
               have NB381_327 := Aside0.mk ((by rw [hg]; exact Nat.ne_of_gt (blk_lt (g := gb327) (o := .cells #[.slice Ao62 t355.length co62, .slice Ao68 t356.length co68] 26 (0, 0)) (kU BK327.out)) : gb381 ≠ gb327))
               replace BK327 := Aside0.mk (blk_below (g := gb327) (o := .cells #[.slice Ao62 t355.length co62, .slice Ao68 t356.length co68] 26 (0, 0)) (kU BK327.out) hb)
               have NB335_381 := Aside0.mk ((by rw [hg]; exact Nat.ne_of_lt (blk_lt (g := gb335) (o := .cells #[.slice Ao72 t328.length co72, .slice Ao79 t331.length co79] 26 (0, 0)) (kU BK335.out)) : gb335 ≠ gb381))
               have NB381_335 := Aside0.mk ((by rw [hg]; exact Nat.ne_of_gt (blk_lt (g := gb335) (o := .cells #[.slice Ao72 t328.length co72, .slice Ao79 t331.length co79] 26 (0, 0)) (kU BK335.out)) : gb381 ≠ gb335))
               replace BK335 := Aside0.mk (blk_below (g := gb335) (o := .cells #[.slice Ao72 t328.length co72, .slice Ao79 t331.length co79] 26 (0, 0)) (kU BK335.out) hb)
               clear hb hbox hg
               refine hK.out _ _ ⟨(blk_cell BK290.out 0).trans rfl, (blk_cell BK290.out 1).trans rfl, (blk_cell BK291.out 0).trans rfl, (blk_cell BK291.out 1).trans rfl⟩ (fun hHeld => ?_)
               clear hK K
               refine norm_ (a' := ?_) ?_ ?_
               rotate_left
               ·
                show Act.put _ (some 17) _ = _
                simp only [Act.put, List.setIfInBounds_toArray, List.set_cons_zero, List.set_cons_succ, i64_w, i32_w]
                rfl
               refine one_ (i := 2) (N := some 101) #[true, true, true, true, false, false, false, false, false, true, false, false] rfl rfl (one_of HT_.out (by kernel_rfl)) (by decide) (fun K hK => ?_)
               refine goes_ Try.func7 (by kernel_rfl) rfl #[.agg #[.slice A1_0 l1_0.length c1_0, .slice A1_1 l1_1.length c1_1]] (by rfl) rfl rfl (by (try simp only [List.map_toArray, List.map_cons, List.map_nil]); first | done | rfl | (simp only [List.length_drop, List.length_take]; rfl)) ?_
               with_reducible refine (laws_toArray.calls kj102 _ _ l1_0 _ _ l1_1 t362 t365 _ ?side1 ?side2 ?side3 ?side4 A147.out).mono ?_
               (case side1 => exact cU (Kd.C_below HR1_0.out HB.out))
               (case side2 => exact HC1_0.out)
               (case side3 => exact cU (Kd.C_below HR1_1.out HB.out))
               (case side4 => exact HC1_1.out)
               rintro e w162 ⟨v363, v366, rfl, ho0, ho1, hb⟩
               refine ⟨_, rfl, ?_⟩
               have HO364 := Aside0.mk (Kd.R_lower (Kd.R_new' (Kd.R_new' (Kd.R_new' (Kd.R_new' (Kd.R_new' (Kd.R_new' (Kd.R_new' (Kd.R_new' ho0 (Kd.R_lt (RU HO_314000.out))) (Kd.R_lt (RU HO_314001.out))) (Kd.R_lt (RU HO_321000.out))) (Kd.R_lt (RU HO_321001.out))) (Kd.R_lt (RU HO_328000.out))) (Kd.R_lt (RU HO_328001.out))) (Kd.R_lt (RU HO_336000.out))) (Kd.R_lt (RU HO_336001.out))) (below_size (by repeat (first | (with_reducible first | exact HB.out | apply below_alloc | apply pw_below_drewN | apply below_drew1 | refine below_set ?_ GE290.out | refine below_set ?_ GE291.out | refine below_set ?_ GE313.out | refine below_set ?_ GE320.out | refine below_set ?_ GE327.out | refine below_set ?_ GE335.out | refine below_set ?_ GE381.out) | exact HB.out))))
               have HO367 := Aside0.mk (Kd.R_lower (Kd.R_new' (Kd.R_new' (Kd.R_new' (Kd.R_new' (Kd.R_new' (Kd.R_new' (Kd.R_new' (Kd.R_new' ho1 (Kd.R_lt (RU HO_314000.out))) (Kd.R_lt (RU HO_314001.out))) (Kd.R_lt (RU HO_321000.out))) (Kd.R_lt (RU HO_321001.out))) (Kd.R_lt (RU HO_328000.out))) (Kd.R_lt (RU HO_328001.out))) (Kd.R_lt (RU HO_336000.out))) (Kd.R_lt (RU HO_336001.out))) (below_size (by repeat (first | (with_reducible first | exact HB.out | apply below_alloc | apply pw_below_drewN | apply below_drew1 | refine below_set ?_ GE290.out | refine below_set ?_ GE291.out | refine below_set ?_ GE313.out | refine below_set ?_ GE320.out | refine below_set ?_ GE327.out | refine below_set ?_ GE335.out | refine below_set ?_ GE381.out) | exact HB.out))))
               replace HO_314000 := Aside0.mk (Kd.R_mono (Kd.R_told (Kd.R_told (Kd.R_old (RU HO_314000.out) hb) (Kd.R_base ho0)) (Kd.R_base ho1)) (fun _ h_ => h_.1))
               replace HO_314001 := Aside0.mk (Kd.R_mono (Kd.R_told (Kd.R_told (Kd.R_old (RU HO_314001.out) hb) (Kd.R_base ho0)) (Kd.R_base ho1)) (fun _ h_ => h_.1))
               replace HO_321000 := Aside0.mk (Kd.R_mono (Kd.R_told (Kd.R_told (Kd.R_old (RU HO_321000.out) hb) (Kd.R_base ho0)) (Kd.R_base ho1)) (fun _ h_ => h_.1))
               replace HO_321001 := Aside0.mk (Kd.R_mono (Kd.R_told (Kd.R_told (Kd.R_old (RU HO_321001.out) hb) (Kd.R_base ho0)) (Kd.R_base ho1)) (fun _ h_ => h_.1))
               replace HO_328000 := Aside0.mk (Kd.R_mono (Kd.R_told (Kd.R_told (Kd.R_old (RU HO_328000.out) hb) (Kd.R_base ho0)) (Kd.R_base ho1)) (fun _ h_ => h_.1))
               replace HO_328001 := Aside0.mk (Kd.R_mono (Kd.R_told (Kd.R_told (Kd.R_old (RU HO_328001.out) hb) (Kd.R_base ho0)) (Kd.R_base ho1)) (fun _ h_ => h_.1))
               replace HO_336000 := Aside0.mk (Kd.R_mono (Kd.R_told (Kd.R_told (Kd.R_old (RU HO_336000.out) hb) (Kd.R_base ho0)) (Kd.R_base ho1)) (fun _ h_ => h_.1))
               replace HO_336001 := Aside0.mk (Kd.R_mono (Kd.R_told (Kd.R_told (Kd.R_old (RU HO_336001.out) hb) (Kd.R_base ho0)) (Kd.R_base ho1)) (fun _ h_ => h_.1))
               replace BK290 := Aside0.mk (blk_below (g := gb290) (o := .cells #[.slice A1_0 l1_0.length c1_0, .slice A1_1 l1_1.length c1_1] 24 (0, 0)) (kU BK290.out) hb)
               replace BK291 := Aside0.mk (blk_below (g := gb291) (o := .cells #[.slice A2_0 l2_0.length c2_0, .slice A2_1 l2_1.length c2_1] 24 (0, 0)) (kU BK291.out) hb)
               replace BK313 := Aside0.mk (blk_below (g := gb313) (o := .cells #[.slice Ao44 t306.length co44, .slice Ao46 t309.length co46] 26 (0, 0)) (kU BK313.out) hb)
               replace BK320 := Aside0.mk (blk_below (g := gb320) (o := .cells #[.slice Ao52 t352.length co52, .slice Ao57 t353.length co57] 26 (0, 0)) (kU BK320.out) hb)
               replace BK327 := Aside0.mk (blk_below (g := gb327) (o := .cells #[.slice Ao62 t355.length co62, .slice Ao68 t356.length co68] 26 (0, 0)) (kU BK327.out) hb)
               replace BK335 := Aside0.mk (blk_below (g := gb335) (o := .cells #[.slice Ao72 t328.length co72, .slice Ao79 t331.length co79] 26 (0, 0)) (kU BK335.out) hb)
               replace BK381 := Aside0.mk (blk_below (g := gb381) (o := .cells #[.slice none 0 0, .slice none 0 0] 26 (0, 0)) (kU BK381.out) hb)
               replace HB := Aside0.mk (below_step (by repeat (first | (with_reducible first | exact HB.out | apply below_alloc | apply pw_below_drewN | apply below_drew1 | refine below_set ?_ GE290.out | refine below_set ?_ GE291.out | refine below_set ?_ GE313.out | refine below_set ?_ GE320.out | refine below_set ?_ GE327.out | refine below_set ?_ GE335.out | refine below_set ?_ GE381.out) | exact HB.out)) hb)
               (try clear hb)
               (try clear hb2)
               (try clear hk)
               (try clear hi)
               (try clear ho0)
               (try clear ho1)
               refine hK.out _ _ ⟨(blk_cell BK290.out 0).trans rfl, (blk_cell BK290.out 1).trans rfl, (blk_cell BK291.out 0).trans rfl, (blk_cell BK291.out 1).trans rfl⟩ (fun hHeld => ?_)
               clear hK K
               refine norm_ (a' := ?_) ?_ ?_
               rotate_left
               ·
                show Act.put _ (some 101) _ = _
                simp only [Act.put, List.setIfInBounds_toArray, List.set_cons_zero, List.set_cons_succ, i64_w, i32_w]
                rfl
               refine one_ (i := 4) (N := some 103) #[true, true, true, true, true, false, false, false, false, true, false, false] rfl rfl (one_of HT_.out (by kernel_rfl)) (by decide) (fun K hK => ?_)
               refine goes_ Try.func7 (by kernel_rfl) rfl #[.agg #[.slice A2_0 l2_0.length c2_0, .slice A2_1 l2_1.length c2_1]] (by rfl) rfl rfl (by (try simp only [List.map_toArray, List.map_cons, List.map_nil]); first | done | rfl | (simp only [List.length_drop, List.length_take]; rfl)) ?_
               with_reducible refine (laws_toArray.calls kj102 _ _ l2_0 _ _ l2_1 t368 t371 _ ?side1 ?side2 ?side3 ?side4 A148.out).mono ?_
               (case side1 => exact cU (Kd.C_below HR2_0.out HB.out))
               (case side2 => exact HC2_0.out)
               (case side3 => exact cU (Kd.C_below HR2_1.out HB.out))
               (case side4 => exact HC2_1.out)
               rintro e w163 ⟨v369, v372, rfl, ho0, ho1, hb⟩
               refine ⟨_, rfl, ?_⟩
               have HO370 := Aside0.mk (Kd.R_lower (Kd.R_new' (Kd.R_new' (Kd.R_new' (Kd.R_new' (Kd.R_new' (Kd.R_new' (Kd.R_new' (Kd.R_new' (Kd.R_new' (Kd.R_new' ho0 (Kd.R_lt (RU HO_314000.out))) (Kd.R_lt (RU HO_314001.out))) (Kd.R_lt (RU HO_321000.out))) (Kd.R_lt (RU HO_321001.out))) (Kd.R_lt (RU HO_328000.out))) (Kd.R_lt (RU HO_328001.out))) (Kd.R_lt (RU HO_336000.out))) (Kd.R_lt (RU HO_336001.out))) (Kd.R_lt (RU HO364.out))) (Kd.R_lt (RU HO367.out))) (below_size (by repeat (first | (with_reducible first | exact HB.out | apply below_alloc | apply pw_below_drewN | apply below_drew1 | refine below_set ?_ GE290.out | refine below_set ?_ GE291.out | refine below_set ?_ GE313.out | refine below_set ?_ GE320.out | refine below_set ?_ GE327.out | refine below_set ?_ GE335.out | refine below_set ?_ GE381.out) | exact HB.out))))
               have HO373 := Aside0.mk (Kd.R_lower (Kd.R_new' (Kd.R_new' (Kd.R_new' (Kd.R_new' (Kd.R_new' (Kd.R_new' (Kd.R_new' (Kd.R_new' (Kd.R_new' (Kd.R_new' ho1 (Kd.R_lt (RU HO_314000.out))) (Kd.R_lt (RU HO_314001.out))) (Kd.R_lt (RU HO_321000.out))) (Kd.R_lt (RU HO_321001.out))) (Kd.R_lt (RU HO_328000.out))) (Kd.R_lt (RU HO_328001.out))) (Kd.R_lt (RU HO_336000.out))) (Kd.R_lt (RU HO_336001.out))) (Kd.R_lt (RU HO364.out))) (Kd.R_lt (RU HO367.out))) (below_size (by repeat (first | (with_reducible first | exact HB.out | apply below_alloc | apply pw_below_drewN | apply below_drew1 | refine below_set ?_ GE290.out | refine below_set ?_ GE291.out | refine below_set ?_ GE313.out | refine below_set ?_ GE320.out | refine below_set ?_ GE327.out | refine below_set ?_ GE335.out | refine below_set ?_ GE381.out) | exact HB.out))))
               replace HO_314000 := Aside0.mk (Kd.R_mono (Kd.R_told (Kd.R_told (Kd.R_old (RU HO_314000.out) hb) (Kd.R_base ho0)) (Kd.R_base ho1)) (fun _ h_ => h_.1))
               replace HO_314001 := Aside0.mk (Kd.R_mono (Kd.R_told (Kd.R_told (Kd.R_old (RU HO_314001.out) hb) (Kd.R_base ho0)) (Kd.R_base ho1)) (fun _ h_ => h_.1))
               replace HO_321000 := Aside0.mk (Kd.R_mono (Kd.R_told (Kd.R_told (Kd.R_old (RU HO_321000.out) hb) (Kd.R_base ho0)) (Kd.R_base ho1)) (fun _ h_ => h_.1))
               replace HO_321001 := Aside0.mk (Kd.R_mono (Kd.R_told (Kd.R_told (Kd.R_old (RU HO_321001.out) hb) (Kd.R_base ho0)) (Kd.R_base ho1)) (fun _ h_ => h_.1))
               replace HO_328000 := Aside0.mk (Kd.R_mono (Kd.R_told (Kd.R_told (Kd.R_old (RU HO_328000.out) hb) (Kd.R_base ho0)) (Kd.R_base ho1)) (fun _ h_ => h_.1))
               replace HO_328001 := Aside0.mk (Kd.R_mono (Kd.R_told (Kd.R_told (Kd.R_old (RU HO_328001.out) hb) (Kd.R_base ho0)) (Kd.R_base ho1)) (fun _ h_ => h_.1))
               replace HO_336000 := Aside0.mk (Kd.R_mono (Kd.R_told (Kd.R_told (Kd.R_old (RU HO_336000.out) hb) (Kd.R_base ho0)) (Kd.R_base ho1)) (fun _ h_ => h_.1))
               replace HO_336001 := Aside0.mk (Kd.R_mono (Kd.R_told (Kd.R_told (Kd.R_old (RU HO_336001.out) hb) (Kd.R_base ho0)) (Kd.R_base ho1)) (fun _ h_ => h_.1))
               replace HO364 := Aside0.mk (Kd.R_mono (Kd.R_told (Kd.R_told (Kd.R_old (RU HO364.out) hb) (Kd.R_base ho0)) (Kd.R_base ho1)) (fun _ h_ => h_.1))
               replace HO367 := Aside0.mk (Kd.R_mono (Kd.R_told (Kd.R_told (Kd.R_old (RU HO367.out) hb) (Kd.R_base ho0)) (Kd.R_base ho1)) (fun _ h_ => h_.1))
               replace BK290 := Aside0.mk (blk_below (g := gb290) (o := .cells #[.slice A1_0 l1_0.length c1_0, .slice A1_1 l1_1.length c1_1] 24 (0, 0)) (kU BK290.out) hb)
               replace BK291 := Aside0.mk (blk_below (g := gb291) (o := .cells #[.slice A2_0 l2_0.length c2_0, .slice A2_1 l2_1.length c2_1] 24 (0, 0)) (kU BK291.out) hb)
               replace BK313 := Aside0.mk (blk_below (g := gb313) (o := .cells #[.slice Ao44 t306.length co44, .slice Ao46 t309.length co46] 26 (0, 0)) (kU BK313.out) hb)
               replace BK320 := Aside0.mk (blk_below (g := gb320) (o := .cells #[.slice Ao52 t352.length co52, .slice Ao57 t353.length co57] 26 (0, 0)) (kU BK320.out) hb)
               replace BK327 := Aside0.mk (blk_below (g := gb327) (o := .cells #[.slice Ao62 t355.length co62, .slice Ao68 t356.length co68] 26 (0, 0)) (kU BK327.out) hb)
               replace BK335 := Aside0.mk (blk_below (g := gb335) (o := .cells #[.slice Ao72 t328.length co72, .slice Ao79 t331.length co79] 26 (0, 0)) (kU BK335.out) hb)
               replace BK381 := Aside0.mk (blk_below (g := gb381) (o := .cells #[.slice none 0 0, .slice none 0 0] 26 (0, 0)) (kU BK381.out) hb)
               replace HB := Aside0.mk (below_step (by repeat (first | (with_reducible first | exact HB.out | apply below_alloc | apply pw_below_drewN | apply below_drew1 | refine below_set ?_ GE290.out | refine below_set ?_ GE291.out | refine below_set ?_ GE313.out | refine below_set ?_ GE320.out | refine below_set ?_ GE327.out | refine below_set ?_ GE335.out | refine below_set ?_ GE381.out) | exact HB.out)) hb)
               (try clear hb)
               (try clear hb2)
               (try clear hk)
               (try clear hi)
               (try clear ho0)
               (try clear ho1)
               obtain ⟨Ao164, co164, eo164⟩ := Kd.R_slice HO364.out
               (first | subst eo164 | (injection eo164 with f1_ f2_ f3_; have f4_ := f1_.symm; have f5_ := f3_.symm; clear f1_ f2_ f3_; subst f4_; subst f5_))
               obtain ⟨Ao165, co165, eo165⟩ := Kd.R_slice HO367.out
               (first | subst eo165 | (injection eo165 with f1_ f2_ f3_; have f4_ := f1_.symm; have f5_ := f3_.symm; clear f1_ f2_ f3_; subst f4_; subst f5_))
               obtain ⟨Ao166, co166, eo166⟩ := Kd.R_slice HO370.out
               (first | subst eo166 | (injection eo166 with f1_ f2_ f3_; have f4_ := f1_.symm; have f5_ := f3_.symm; clear f1_ f2_ f3_; subst f4_; subst f5_))
               obtain ⟨Ao167, co167, eo167⟩ := Kd.R_slice HO373.out
               (first | subst eo167 | (injection eo167 with f1_ f2_ f3_; have f4_ := f1_.symm; have f5_ := f3_.symm; clear f1_ f2_ f3_; subst f4_; subst f5_))
               refine hK.out _ _ ⟨(blk_cell BK290.out 0).trans rfl, (blk_cell BK290.out 1).trans rfl, (blk_cell BK291.out 0).trans rfl, (blk_cell BK291.out 1).trans rfl⟩ (fun hHeld => ?_)
               clear hK K
               refine norm_ (a' := ?_) ?_ ?_
               rotate_left
               ·
                show Act.put _ (some 103) _ = _
                simp only [Act.put, List.setIfInBounds_toArray, List.set_cons_zero, List.set_cons_succ, i64_w, i32_w]
                rfl
               refine one_ (i := 5) (N := some 104) #[true, true, true, true, true, true, false, false, false, true, false, false] rfl rfl (one_of HT_.out (by kernel_rfl)) (by decide) (fun K hK => ?_)
               refine goes_ Try.func8 (by kernel_rfl) rfl #[.int .i64 a0, .agg #[.slice Ao164 t362.length co164, .slice Ao165 t365.length co165], .agg #[.slice Ao166 t368.length co166, .slice Ao167 t371.length co167]] (by rfl) rfl rfl (by (try simp only [List.map_toArray, List.map_cons, List.map_nil]); first | done | rfl | (simp only [List.length_drop, List.length_take]; rfl)) ?_
               with_reducible refine (impl_EachTwo.calls kj102 a0 _ _ t362 _ _ t365 _ _ t368 _ _ t371 t374 t377 t380 _ ?side1 ?side2 ?side3 ?side4 ?side5 ?side6 ?side7 ?side8 A149.out).mono ?_
               (case side1 => exact cU (Kd.R_reads' HO364.out).2.2)
               (case side2 => exact (Kd.R_reads' HO364.out).2.1)
               (case side3 => exact cU (Kd.R_reads' HO367.out).2.2)
               (case side4 => exact (Kd.R_reads' HO367.out).2.1)
               (case side5 => exact cU (Kd.R_reads' HO370.out).2.2)
               (case side6 => exact (Kd.R_reads' HO370.out).2.1)
               (case side7 => exact cU (Kd.R_reads' HO373.out).2.2)
               (case side8 => exact (Kd.R_reads' HO373.out).2.1)
               rintro e w168 ⟨v375, v378, rfl, ho0, ho1, hb⟩
               refine ⟨_, rfl, ?_⟩
               have HO376 := Aside0.mk (Kd.R_lower (Kd.R_new' (Kd.R_new' (Kd.R_new' (Kd.R_new' (Kd.R_new' (Kd.R_new' (Kd.R_new' (Kd.R_new' (Kd.R_new' (Kd.R_new' (Kd.R_new' (Kd.R_new' ho0 (Kd.R_lt (RU HO_314000.out))) (Kd.R_lt (RU HO_314001.out))) (Kd.R_lt (RU HO_321000.out))) (Kd.R_lt (RU HO_321001.out))) (Kd.R_lt (RU HO_328000.out))) (Kd.R_lt (RU HO_328001.out))) (Kd.R_lt (RU HO_336000.out))) (Kd.R_lt (RU HO_336001.out))) (Kd.R_lt (RU HO364.out))) (Kd.R_lt (RU HO367.out))) (Kd.R_lt (RU HO370.out))) (Kd.R_lt (RU HO373.out))) (below_size (by repeat (first | (with_reducible first | exact HB.out | apply below_alloc | apply pw_below_drewN | apply below_drew1 | refine below_set ?_ GE290.out | refine below_set ?_ GE291.out | refine below_set ?_ GE313.out | refine below_set ?_ GE320.out | refine below_set ?_ GE327.out | refine below_set ?_ GE335.out | refine below_set ?_ GE381.out) | exact HB.out))))
               have HO379 := Aside0.mk (Kd.R_lower (Kd.R_new' (Kd.R_new' (Kd.R_new' (Kd.R_new' (Kd.R_new' (Kd.R_new' (Kd.R_new' (Kd.R_new' (Kd.R_new' (Kd.R_new' (Kd.R_new' (Kd.R_new' ho1 (Kd.R_lt (RU HO_314000.out))) (Kd.R_lt (RU HO_314001.out))) (Kd.R_lt (RU HO_321000.out))) (Kd.R_lt (RU HO_321001.out))) (Kd.R_lt (RU HO_328000.out))) (Kd.R_lt (RU HO_328001.out))) (Kd.R_lt (RU HO_336000.out))) (Kd.R_lt (RU HO_336001.out))) (Kd.R_lt (RU HO364.out))) (Kd.R_lt (RU HO367.out))) (Kd.R_lt (RU HO370.out))) (Kd.R_lt (RU HO373.out))) (below_size (by repeat (first | (with_reducible first | exact HB.out | apply below_alloc | apply pw_below_drewN | apply below_drew1 | refine below_set ?_ GE290.out | refine below_set ?_ GE291.out | refine below_set ?_ GE313.out | refine below_set ?_ GE320.out | refine below_set ?_ GE327.out | refine below_set ?_ GE335.out | refine below_set ?_ GE381.out) | exact HB.out))))
               replace HO_314000 := Aside0.mk (Kd.R_mono (Kd.R_told (Kd.R_told (Kd.R_old (RU HO_314000.out) hb) (Kd.R_base ho0)) (Kd.R_base ho1)) (fun _ h_ => h_.1))
               replace HO_314001 := Aside0.mk (Kd.R_mono (Kd.R_told (Kd.R_told (Kd.R_old (RU HO_314001.out) hb) (Kd.R_base ho0)) (Kd.R_base ho1)) (fun _ h_ => h_.1))
               replace HO_321000 := Aside0.mk (Kd.R_mono (Kd.R_told (Kd.R_told (Kd.R_old (RU HO_321000.out) hb) (Kd.R_base ho0)) (Kd.R_base ho1)) (fun _ h_ => h_.1))
               replace HO_321001 := Aside0.mk (Kd.R_mono (Kd.R_told (Kd.R_told (Kd.R_old (RU HO_321001.out) hb) (Kd.R_base ho0)) (Kd.R_base ho1)) (fun _ h_ => h_.1))
               replace HO_328000 := Aside0.mk (Kd.R_mono (Kd.R_told (Kd.R_told (Kd.R_old (RU HO_328000.out) hb) (Kd.R_base ho0)) (Kd.R_base ho1)) (fun _ h_ => h_.1))
               replace HO_328001 := Aside0.mk (Kd.R_mono (Kd.R_told (Kd.R_told (Kd.R_old (RU HO_328001.out) hb) (Kd.R_base ho0)) (Kd.R_base ho1)) (fun _ h_ => h_.1))
               replace HO_336000 := Aside0.mk (Kd.R_mono (Kd.R_told (Kd.R_told (Kd.R_old (RU HO_336000.out) hb) (Kd.R_base ho0)) (Kd.R_base ho1)) (fun _ h_ => h_.1))
               replace HO_336001 := Aside0.mk (Kd.R_mono (Kd.R_told (Kd.R_told (Kd.R_old (RU HO_336001.out) hb) (Kd.R_base ho0)) (Kd.R_base ho1)) (fun _ h_ => h_.1))
               replace HO364 := Aside0.mk (Kd.R_mono (Kd.R_told (Kd.R_told (Kd.R_old (RU HO364.out) hb) (Kd.R_base ho0)) (Kd.R_base ho1)) (fun _ h_ => h_.1))
               replace HO367 := Aside0.mk (Kd.R_mono (Kd.R_told (Kd.R_told (Kd.R_old (RU HO367.out) hb) (Kd.R_base ho0)) (Kd.R_base ho1)) (fun _ h_ => h_.1))
               replace HO370 := Aside0.mk (Kd.R_mono (Kd.R_told (Kd.R_told (Kd.R_old (RU HO370.out) hb) (Kd.R_base ho0)) (Kd.R_base ho1)) (fun _ h_ => h_.1))
               replace HO373 := Aside0.mk (Kd.R_mono (Kd.R_told (Kd.R_told (Kd.R_old (RU HO373.out) hb) (Kd.R_base ho0)) (Kd.R_base ho1)) (fun _ h_ => h_.1))
               replace BK290 := Aside0.mk (blk_below (g := gb290) (o := .cells #[.slice A1_0 l1_0.length c1_0, .slice A1_1 l1_1.length c1_1] 24 (0, 0)) (kU BK290.out) hb)
               replace BK291 := Aside0.mk (blk_below (g := gb291) (o := .cells #[.slice A2_0 l2_0.length c2_0, .slice A2_1 l2_1.length c2_1] 24 (0, 0)) (kU BK291.out) hb)
               replace BK313 := Aside0.mk (blk_below (g := gb313) (o := .cells #[.slice Ao44 t306.length co44, .slice Ao46 t309.length co46] 26 (0, 0)) (kU BK313.out) hb)
               replace BK320 := Aside0.mk (blk_below (g := gb320) (o := .cells #[.slice Ao52 t352.length co52, .slice Ao57 t353.length co57] 26 (0, 0)) (kU BK320.out) hb)
               replace BK327 := Aside0.mk (blk_below (g := gb327) (o := .cells #[.slice Ao62 t355.length co62, .slice Ao68 t356.length co68] 26 (0, 0)) (kU BK327.out) hb)
               replace BK335 := Aside0.mk (blk_below (g := gb335) (o := .cells #[.slice Ao72 t328.length co72, .slice Ao79 t331.length co79] 26 (0, 0)) (kU BK335.out) hb)
               replace BK381 := Aside0.mk (blk_below (g := gb381) (o := .cells #[.slice none 0 0, .slice none 0 0] 26 (0, 0)) (kU BK381.out) hb)
               replace HB := Aside0.mk (below_step (by repeat (first | (with_reducible first | exact HB.out | apply below_alloc | apply pw_below_drewN | apply below_drew1 | refine below_set ?_ GE290.out | refine below_set ?_ GE291.out | refine below_set ?_ GE313.out | refine below_set ?_ GE320.out | refine below_set ?_ GE327.out | refine below_set ?_ GE335.out | refine below_set ?_ GE381.out) | exact HB.out)) hb)
               (try clear hb)
               (try clear hb2)
               (try clear hk)
               (try clear hi)
               (try clear ho0)
               (try clear ho1)
               refine hK.out _ _ ⟨(blk_cell BK290.out 0).trans rfl, (blk_cell BK290.out 1).trans rfl, (blk_cell BK291.out 0).trans rfl, (blk_cell BK291.out 1).trans rfl⟩ (fun hHeld => ?_)
               clear hK K
               refine norm_ (a' := ?_) ?_ ?_
               rotate_left
               ·
                show Act.put _ (some 104) _ = _
                simp only [Act.put, List.setIfInBounds_toArray, List.set_cons_zero, List.set_cons_succ, i64_w, i32_w]
                rfl
               refine pure_ (i := 6) (N := some 98) (v := ?_) (a' := ?_) #[true, true, true, true, true, true, true, false, false, true, false, false] rfl rfl (any_of HT_.out (by kernel_rfl)) (fun _ _ _ h => h) (Or.inl ⟨by rfl, ?_⟩) ?_ ?_
               rotate_left
               ·
                intro w'
                go_simp
                with_reducible rfl
               rotate_left
               ·
                simp only [Act.put, List.setIfInBounds_toArray, List.set_cons_zero, List.set_cons_succ, i64_w, i32_w]
                rfl
               refine pure_ (i := 7) (N := some 105) (v := ?_) (a' := ?_) #[true, true, true, true, true, true, true, true, false, true, false, false] rfl rfl (any_of HT_.out (by kernel_rfl)) (fun _ _ _ h => h) (Or.inl ⟨by rfl, ?_⟩) ?_ ?_
               rotate_left
               ·
                intro w'
                go_simp
                with_reducible rfl
               rotate_left
               ·
                simp only [Act.put, List.setIfInBounds_toArray, List.set_cons_zero, List.set_cons_succ, i64_w, i32_w]
                rfl
               refine pure_ (i := 8) (N := some 106) (v := ?_) (a' := ?_) #[true, true, true, true, true, true, true, true, true, true, false, false] rfl rfl (any_of HT_.out (by kernel_rfl)) (fun _ _ _ h => h) (Or.inl ⟨by rfl, ?_⟩) ?_ ?_
               rotate_left
               ·
                intro w'
                go_simp
                with_reducible rfl
               rotate_left
               ·
                simp only [Act.put, List.setIfInBounds_toArray, List.set_cons_zero, List.set_cons_succ, i64_w, i32_w]
                rfl
               exact norm_ (by simp only [putAll, Act.put, List.setIfInBounds_toArray, List.set_cons_zero, List.set_cons_succ]) (hCont (.slice Ao164 t362.length co164, .slice Ao165 t365.length co165, .slice Ao166 t368.length co166, .slice Ao167 t371.length co167, v375, v378, gb381) _ ⟨hHeld, (by (with_reducible repeat (first | apply Kd.R_alloc | apply Kd.R_drewN | apply Kd.R_drew)); exact Kd.R_mono HO364.out (fun _ hk => ⟨hk.1.1.1.1.1.1.1.1.1.1.1.1, ⟨hk.1.1.1.2, ⟨hk.1.1.2, ⟨hk.1.2, ⟨hk.2, ⟨hk.1.1.1.1.1.1.1.1.1.1.1.2, ⟨hk.1.1.1.1.1.1.1.1.1.1.2, ⟨hk.1.1.1.1.1.1.1.1.1.2, ⟨hk.1.1.1.1.1.1.1.1.2, ⟨hk.1.1.1.1.1.1.1.2, ⟨hk.1.1.1.1.1.1.2, ⟨hk.1.1.1.1.1.2, hk.1.1.1.1.2⟩⟩⟩⟩⟩⟩⟩⟩⟩⟩⟩⟩)), (by (with_reducible repeat (first | apply Kd.R_alloc | apply Kd.R_drewN | apply Kd.R_drew)); exact Kd.R_mono HO367.out (fun _ hk => ⟨hk.1.1.1.1.1.1.1.1.1.1.1.1, ⟨hk.1.1.1.2, ⟨hk.1.1.2, ⟨hk.1.2, ⟨hk.2, ⟨hk.1.1.1.1.1.1.1.1.1.1.1.2, ⟨hk.1.1.1.1.1.1.1.1.1.1.2, ⟨hk.1.1.1.1.1.1.1.1.1.2, ⟨hk.1.1.1.1.1.1.1.1.2, ⟨hk.1.1.1.1.1.1.1.2, ⟨hk.1.1.1.1.1.1.2, ⟨hk.1.1.1.1.1.2, hk.1.1.1.1.2⟩⟩⟩⟩⟩⟩⟩⟩⟩⟩⟩⟩)), (by (with_reducible repeat (first | apply Kd.R_alloc | apply Kd.R_drewN | apply Kd.R_drew)); exact Kd.R_mono HO370.out (fun _ hk => ⟨hk.1.1.1.2, ⟨hk.1.1.2, ⟨hk.1.1.1.1.1.1.1.1.1.1.1.1, ⟨hk.1.2, ⟨hk.2, ⟨hk.1.1.1.1.1.1.1.1.1.1.1.2, ⟨hk.1.1.1.1.1.1.1.1.1.1.2, ⟨hk.1.1.1.1.1.1.1.1.1.2, ⟨hk.1.1.1.1.1.1.1.1.2, ⟨hk.1.1.1.1.1.1.1.2, ⟨hk.1.1.1.1.1.1.2, ⟨hk.1.1.1.1.1.2, hk.1.1.1.1.2⟩⟩⟩⟩⟩⟩⟩⟩⟩⟩⟩⟩)), (by (with_reducible repeat (first | apply Kd.R_alloc | apply Kd.R_drewN | apply Kd.R_drew)); exact Kd.R_mono HO373.out (fun _ hk => ⟨hk.1.1.1.2, ⟨hk.1.1.2, ⟨hk.1.1.1.1.1.1.1.1.1.1.1.1, ⟨hk.1.2, ⟨hk.2, ⟨hk.1.1.1.1.1.1.1.1.1.1.1.2, ⟨hk.1.1.1.1.1.1.1.1.1.1.2, ⟨hk.1.1.1.1.1.1.1.1.1.2, ⟨hk.1.1.1.1.1.1.1.1.2, ⟨hk.1.1.1.1.1.1.1.2, ⟨hk.1.1.1.1.1.1.2, ⟨hk.1.1.1.1.1.2, hk.1.1.1.1.2⟩⟩⟩⟩⟩⟩⟩⟩⟩⟩⟩⟩)), (by (with_reducible repeat (first | apply Kd.R_alloc | apply Kd.R_drewN | apply Kd.R_drew)); exact Kd.R_mono HO376.out (fun _ hk => ⟨hk.1.1.1.2, ⟨hk.1.1.2, ⟨hk.1.2, ⟨hk.2, ⟨hk.1.1.1.1.1.1.1.1.1.1.1.1, ⟨hk.1.1.1.1.1.1.1.1.1.1.1.2, ⟨hk.1.1.1.1.1.1.1.1.1.1.2, ⟨hk.1.1.1.1.1.1.1.1.1.2, ⟨hk.1.1.1.1.1.1.1.1.2, ⟨hk.1.1.1.1.1.1.1.2, ⟨hk.1.1.1.1.1.1.2, ⟨hk.1.1.1.1.1.2, hk.1.1.1.1.2⟩⟩⟩⟩⟩⟩⟩⟩⟩⟩⟩⟩)), (by (with_reducible repeat (first | apply Kd.R_alloc | apply Kd.R_drewN | apply Kd.R_drew)); exact Kd.R_mono HO379.out (fun _ hk => ⟨hk.1.1.1.2, ⟨hk.1.1.2, ⟨hk.1.2, ⟨hk.2, ⟨hk.1.1.1.1.1.1.1.1.1.1.1.1, ⟨hk.1.1.1.1.1.1.1.1.1.1.1.2, ⟨hk.1.1.1.1.1.1.1.1.1.1.2, ⟨hk.1.1.1.1.1.1.1.1.1.2, ⟨hk.1.1.1.1.1.1.1.1.2, ⟨hk.1.1.1.1.1.1.1.2, ⟨hk.1.1.1.1.1.1.2, ⟨hk.1.1.1.1.1.2, hk.1.1.1.1.2⟩⟩⟩⟩⟩⟩⟩⟩⟩⟩⟩⟩)), (by (with_reducible repeat (first | apply Kd.R_alloc | apply Kd.R_drewN | apply Kd.R_drew)); exact Kd.R_mono HO_314000.out (fun _ hk => ⟨hk.1.1.1.1.1.2, ⟨hk.1.1.1.1.2, ⟨hk.1.1.1.2, ⟨hk.1.1.2, ⟨hk.1.2, ⟨hk.2, ⟨hk.1.1.1.1.1.1.1, ⟨hk.1.1.1.1.1.1.2.1, ⟨hk.1.1.1.1.1.1.2.2.1, ⟨hk.1.1.1.1.1.1.2.2.2.1, ⟨hk.1.1.1.1.1.1.2.2.2.2.1, ⟨hk.1.1.1.1.1.1.2.2.2.2.2.1, hk.1.1.1.1.1.1.2.2.2.2.2.2⟩⟩⟩⟩⟩⟩⟩⟩⟩⟩⟩⟩)), (by (with_reducible repeat (first | apply Kd.R_alloc | apply Kd.R_drewN | apply Kd.R_drew)); exact Kd.R_mono HO_314001.out (fun _ hk => ⟨hk.1.1.1.1.1.2, ⟨hk.1.1.1.1.2, ⟨hk.1.1.1.2, ⟨hk.1.1.2, ⟨hk.1.2, ⟨hk.2, ⟨hk.1.1.1.1.1.1.1, ⟨hk.1.1.1.1.1.1.2.1, ⟨hk.1.1.1.1.1.1.2.2.1, ⟨hk.1.1.1.1.1.1.2.2.2.1, ⟨hk.1.1.1.1.1.1.2.2.2.2.1, ⟨hk.1.1.1.1.1.1.2.2.2.2.2.1, hk.1.1.1.1.1.1.2.2.2.2.2.2⟩⟩⟩⟩⟩⟩⟩⟩⟩⟩⟩⟩)), (by (with_reducible repeat (first | apply Kd.R_alloc | apply Kd.R_drewN | apply Kd.R_drew)); exact Kd.R_mono HO_321000.out (fun _ hk => ⟨hk.1.1.1.1.1.2, ⟨hk.1.1.1.1.2, ⟨hk.1.1.1.2, ⟨hk.1.1.2, ⟨hk.1.2, ⟨hk.2, ⟨hk.1.1.1.1.1.1.1, ⟨hk.1.1.1.1.1.1.2.1, ⟨hk.1.1.1.1.1.1.2.2.1, ⟨hk.1.1.1.1.1.1.2.2.2.1, ⟨hk.1.1.1.1.1.1.2.2.2.2.1, ⟨hk.1.1.1.1.1.1.2.2.2.2.2.1, hk.1.1.1.1.1.1.2.2.2.2.2.2⟩⟩⟩⟩⟩⟩⟩⟩⟩⟩⟩⟩)), (by (with_reducible repeat (first | apply Kd.R_alloc | apply Kd.R_drewN | apply Kd.R_drew)); exact Kd.R_mono HO_321001.out (fun _ hk => ⟨hk.1.1.1.1.1.2, ⟨hk.1.1.1.1.2, ⟨hk.1.1.1.2, ⟨hk.1.1.2, ⟨hk.1.2, ⟨hk.2, ⟨hk.1.1.1.1.1.1.1, ⟨hk.1.1.1.1.1.1.2.1, ⟨hk.1.1.1.1.1.1.2.2.1, ⟨hk.1.1.1.1.1.1.2.2.2.1, ⟨hk.1.1.1.1.1.1.2.2.2.2.1, ⟨hk.1.1.1.1.1.1.2.2.2.2.2.1, hk.1.1.1.1.1.1.2.2.2.2.2.2⟩⟩⟩⟩⟩⟩⟩⟩⟩⟩⟩⟩)), (by (with_reducible repeat (first | apply Kd.R_alloc | apply Kd.R_drewN | apply Kd.R_drew)); exact Kd.R_mono HO_328000.out (fun _ hk => ⟨hk.1.1.1.1.1.2, ⟨hk.1.1.1.1.2, ⟨hk.1.1.1.2, ⟨hk.1.1.2, ⟨hk.1.2, ⟨hk.2, ⟨hk.1.1.1.1.1.1.1, ⟨hk.1.1.1.1.1.1.2.1, ⟨hk.1.1.1.1.1.1.2.2.1, ⟨hk.1.1.1.1.1.1.2.2.2.1, ⟨hk.1.1.1.1.1.1.2.2.2.2.1, ⟨hk.1.1.1.1.1.1.2.2.2.2.2.1, hk.1.1.1.1.1.1.2.2.2.2.2.2⟩⟩⟩⟩⟩⟩⟩⟩⟩⟩⟩⟩)), (by (with_reducible repeat (first | apply Kd.R_alloc | apply Kd.R_drewN | apply Kd.R_drew)); exact Kd.R_mono HO_328001.out (fun _ hk => ⟨hk.1.1.1.1.1.2, ⟨hk.1.1.1.1.2, ⟨hk.1.1.1.2, ⟨hk.1.1.2, ⟨hk.1.2, ⟨hk.2, ⟨hk.1.1.1.1.1.1.1, ⟨hk.1.1.1.1.1.1.2.1, ⟨hk.1.1.1.1.1.1.2.2.1, ⟨hk.1.1.1.1.1.1.2.2.2.1, ⟨hk.1.1.1.1.1.1.2.2.2.2.1, ⟨hk.1.1.1.1.1.1.2.2.2.2.2.1, hk.1.1.1.1.1.1.2.2.2.2.2.2⟩⟩⟩⟩⟩⟩⟩⟩⟩⟩⟩⟩)), (by (with_reducible repeat (first | apply Kd.R_alloc | apply Kd.R_drewN | apply Kd.R_drew)); exact Kd.R_mono HO_336000.out (fun _ hk => ⟨hk.1.1.1.1.1.2, ⟨hk.1.1.1.1.2, ⟨hk.1.1.1.2, ⟨hk.1.1.2, ⟨hk.1.2, ⟨hk.2, ⟨hk.1.1.1.1.1.1.1, ⟨hk.1.1.1.1.1.1.2.1, ⟨hk.1.1.1.1.1.1.2.2.1, ⟨hk.1.1.1.1.1.1.2.2.2.1, ⟨hk.1.1.1.1.1.1.2.2.2.2.1, ⟨hk.1.1.1.1.1.1.2.2.2.2.2.1, hk.1.1.1.1.1.1.2.2.2.2.2.2⟩⟩⟩⟩⟩⟩⟩⟩⟩⟩⟩⟩)), (by (with_reducible repeat (first | apply Kd.R_alloc | apply Kd.R_drewN | apply Kd.R_drew)); exact Kd.R_mono HO_336001.out (fun _ hk => ⟨hk.1.1.1.1.1.2, ⟨hk.1.1.1.1.2, ⟨hk.1.1.1.2, ⟨hk.1.1.2, ⟨hk.1.2, ⟨hk.2, ⟨hk.1.1.1.1.1.1.1, ⟨hk.1.1.1.1.1.1.2.1, ⟨hk.1.1.1.1.1.1.2.2.1, ⟨hk.1.1.1.1.1.1.2.2.2.1, ⟨hk.1.1.1.1.1.1.2.2.2.2.1, ⟨hk.1.1.1.1.1.1.2.2.2.2.2.1, hk.1.1.1.1.1.1.2.2.2.2.2.2⟩⟩⟩⟩⟩⟩⟩⟩⟩⟩⟩⟩)), (kU BK290.out), (kU BK291.out), (kU BK313.out), (kU BK320.out), (kU BK327.out), (kU BK335.out), (kU BK381.out), GW381.out, GE381.out, NB290_381.out, NB381_290.out, NB291_381.out, NB381_291.out, NB313_381.out, NB381_313.out, NB320_381.out, NB381_320.out, NB327_381.out, NB381_327.out, NB335_381.out, NB381_335.out, (by repeat (first | (with_reducible first | exact HB.out | apply below_alloc | apply pw_below_drewN | apply below_drew1 | refine below_set ?_ GE290.out | refine below_set ?_ GE291.out | refine below_set ?_ GE313.out | refine below_set ?_ GE320.out | refine below_set ?_ GE327.out | refine below_set ?_ GE335.out | refine below_set ?_ GE381.out) | exact HB.out))⟩)
             rintro ⟨v363, v366, v369, v372, v375, v378, gb381⟩ w169 ⟨hS_, h0_, h1_, h2_, h3_, h4_, h5_, h6_, h7_, h8_, h9_, h10_, h11_, h12_, h13_, h14_, h15_, h16_, h17_, h18_, h19_, h20_, h21_, h22_, h23_, h24_, h25_, h26_, h27_, h28_, h29_, h30_, h31_, h32_, h33_, h34_, h35_⟩
             have n0_ : Aside0 (Kd.R (Kd.int .i64) 3 w169 w.heap.size (fun k_ => some k_ ≠ (v366 : Value).ownBlock ∧ some k_ ≠ (v369 : Value).ownBlock ∧ some k_ ≠ (v372 : Value).ownBlock ∧ some k_ ≠ (v375 : Value).ownBlock ∧ some k_ ≠ (v378 : Value).ownBlock ∧ some k_ ≠ (.slice Ao44 t306.length co44 : Value).ownBlock ∧ some k_ ≠ (.slice Ao46 t309.length co46 : Value).ownBlock ∧ some k_ ≠ (.slice Ao52 t352.length co52 : Value).ownBlock ∧ some k_ ≠ (.slice Ao57 t353.length co57 : Value).ownBlock ∧ some k_ ≠ (.slice Ao62 t355.length co62 : Value).ownBlock ∧ some k_ ≠ (.slice Ao68 t356.length co68 : Value).ownBlock ∧ some k_ ≠ (.slice Ao72 t328.length co72 : Value).ownBlock ∧ some k_ ≠ (.slice Ao79 t331.length co79 : Value).ownBlock) v363 t362) := ⟨h0_⟩
             have n1_ : Aside0 (Kd.R (Kd.int .i64) 3 w169 w.heap.size (fun k_ => some k_ ≠ (v363 : Value).ownBlock ∧ some k_ ≠ (v369 : Value).ownBlock ∧ some k_ ≠ (v372 : Value).ownBlock ∧ some k_ ≠ (v375 : Value).ownBlock ∧ some k_ ≠ (v378 : Value).ownBlock ∧ some k_ ≠ (.slice Ao44 t306.length co44 : Value).ownBlock ∧ some k_ ≠ (.slice Ao46 t309.length co46 : Value).ownBlock ∧ some k_ ≠ (.slice Ao52 t352.length co52 : Value).ownBlock ∧ some k_ ≠ (.slice Ao57 t353.length co57 : Value).ownBlock ∧ some k_ ≠ (.slice Ao62 t355.length co62 : Value).ownBlock ∧ some k_ ≠ (.slice Ao68 t356.length co68 : Value).ownBlock ∧ some k_ ≠ (.slice Ao72 t328.length co72 : Value).ownBlock ∧ some k_ ≠ (.slice Ao79 t331.length co79 : Value).ownBlock) v366 t365) := ⟨h1_⟩
             have n2_ : Aside0 (Kd.R (Kd.int .i64) 3 w169 w.heap.size (fun k_ => some k_ ≠ (v363 : Value).ownBlock ∧ some k_ ≠ (v366 : Value).ownBlock ∧ some k_ ≠ (v372 : Value).ownBlock ∧ some k_ ≠ (v375 : Value).ownBlock ∧ some k_ ≠ (v378 : Value).ownBlock ∧ some k_ ≠ (.slice Ao44 t306.length co44 : Value).ownBlock ∧ some k_ ≠ (.slice Ao46 t309.length co46 : Value).ownBlock ∧ some k_ ≠ (.slice Ao52 t352.length co52 : Value).ownBlock ∧ some k_ ≠ (.slice Ao57 t353.length co57 : Value).ownBlock ∧ some k_ ≠ (.slice Ao62 t355.length co62 : Value).ownBlock ∧ some k_ ≠ (.slice Ao68 t356.length co68 : Value).ownBlock ∧ some k_ ≠ (.slice Ao72 t328.length co72 : Value).ownBlock ∧ some k_ ≠ (.slice Ao79 t331.length co79 : Value).ownBlock) v369 t368) := ⟨h2_⟩
             have n3_ : Aside0 (Kd.R (Kd.int .i64) 3 w169 w.heap.size (fun k_ => some k_ ≠ (v363 : Value).ownBlock ∧ some k_ ≠ (v366 : Value).ownBlock ∧ some k_ ≠ (v369 : Value).ownBlock ∧ some k_ ≠ (v375 : Value).ownBlock ∧ some k_ ≠ (v378 : Value).ownBlock ∧ some k_ ≠ (.slice Ao44 t306.length co44 : Value).ownBlock ∧ some k_ ≠ (.slice Ao46 t309.length co46 : Value).ownBlock ∧ some k_ ≠ (.slice Ao52 t352.length co52 : Value).ownBlock ∧ some k_ ≠ (.slice Ao57 t353.length co57 : Value).ownBlock ∧ some k_ ≠ (.slice Ao62 t355.length co62 : Value).ownBlock ∧ some k_ ≠ (.slice Ao68 t356.length co68 : Value).ownBlock ∧ some k_ ≠ (.slice Ao72 t328.length co72 : Value).ownBlock ∧ some k_ ≠ (.slice Ao79 t331.length co79 : Value).ownBlock) v372 t371) := ⟨h3_⟩
             have n4_ : Aside0 (Kd.R (Kd.int .i64) 3 w169 w.heap.size (fun k_ => some k_ ≠ (v363 : Value).ownBlock ∧ some k_ ≠ (v366 : Value).ownBlock ∧ some k_ ≠ (v369 : Value).ownBlock ∧ some k_ ≠ (v372 : Value).ownBlock ∧ some k_ ≠ (v378 : Value).ownBlock ∧ some k_ ≠ (.slice Ao44 t306.length co44 : Value).ownBlock ∧ some k_ ≠ (.slice Ao46 t309.length co46 : Value).ownBlock ∧ some k_ ≠ (.slice Ao52 t352.length co52 : Value).ownBlock ∧ some k_ ≠ (.slice Ao57 t353.length co57 : Value).ownBlock ∧ some k_ ≠ (.slice Ao62 t355.length co62 : Value).ownBlock ∧ some k_ ≠ (.slice Ao68 t356.length co68 : Value).ownBlock ∧ some k_ ≠ (.slice Ao72 t328.length co72 : Value).ownBlock ∧ some k_ ≠ (.slice Ao79 t331.length co79 : Value).ownBlock) v375 t374) := ⟨h4_⟩
             have n5_ : Aside0 (Kd.R (Kd.int .i64) 3 w169 w.heap.size (fun k_ => some k_ ≠ (v363 : Value).ownBlock ∧ some k_ ≠ (v366 : Value).ownBlock ∧ some k_ ≠ (v369 : Value).ownBlock ∧ some k_ ≠ (v372 : Value).ownBlock ∧ some k_ ≠ (v375 : Value).ownBlock ∧ some k_ ≠ (.slice Ao44 t306.length co44 : Value).ownBlock ∧ some k_ ≠ (.slice Ao46 t309.length co46 : Value).ownBlock ∧ some k_ ≠ (.slice Ao52 t352.length co52 : Value).ownBlock ∧ some k_ ≠ (.slice Ao57 t353.length co57 : Value).ownBlock ∧ some k_ ≠ (.slice Ao62 t355.length co62 : Value).ownBlock ∧ some k_ ≠ (.slice Ao68 t356.length co68 : Value).ownBlock ∧ some k_ ≠ (.slice Ao72 t328.length co72 : Value).ownBlock ∧ some k_ ≠ (.slice Ao79 t331.length co79 : Value).ownBlock) v378 t377) := ⟨h5_⟩
             have n6_ : Aside0 (Kd.R (Kd.int .i64) 3 w169 w.heap.size (fun k_ => some k_ ≠ (v363 : Value).ownBlock ∧ some k_ ≠ (v366 : Value).ownBlock ∧ some k_ ≠ (v369 : Value).ownBlock ∧ some k_ ≠ (v372 : Value).ownBlock ∧ some k_ ≠ (v375 : Value).ownBlock ∧ some k_ ≠ (v378 : Value).ownBlock ∧ some k_ ≠ (.slice Ao46 t309.length co46 : Value).ownBlock ∧ some k_ ≠ (.slice Ao52 t352.length co52 : Value).ownBlock ∧ some k_ ≠ (.slice Ao57 t353.length co57 : Value).ownBlock ∧ some k_ ≠ (.slice Ao62 t355.length co62 : Value).ownBlock ∧ some k_ ≠ (.slice Ao68 t356.length co68 : Value).ownBlock ∧ some k_ ≠ (.slice Ao72 t328.length co72 : Value).ownBlock ∧ some k_ ≠ (.slice Ao79 t331.length co79 : Value).ownBlock) (.slice Ao44 t306.length co44) t306) := ⟨h6_⟩
             have n7_ : Aside0 (Kd.R (Kd.int .i64) 3 w169 w.heap.size (fun k_ => some k_ ≠ (v363 : Value).ownBlock ∧ some k_ ≠ (v366 : Value).ownBlock ∧ some k_ ≠ (v369 : Value).ownBlock ∧ some k_ ≠ (v372 : Value).ownBlock ∧ some k_ ≠ (v375 : Value).ownBlock ∧ some k_ ≠ (v378 : Value).ownBlock ∧ some k_ ≠ (.slice Ao44 t306.length co44 : Value).ownBlock ∧ some k_ ≠ (.slice Ao52 t352.length co52 : Value).ownBlock ∧ some k_ ≠ (.slice Ao57 t353.length co57 : Value).ownBlock ∧ some k_ ≠ (.slice Ao62 t355.length co62 : Value).ownBlock ∧ some k_ ≠ (.slice Ao68 t356.length co68 : Value).ownBlock ∧ some k_ ≠ (.slice Ao72 t328.length co72 : Value).ownBlock ∧ some k_ ≠ (.slice Ao79 t331.length co79 : Value).ownBlock) (.slice Ao46 t309.length co46) t309) := ⟨h7_⟩
             have n8_ : Aside0 (Kd.R (Kd.int .i64) 3 w169 w.heap.size (fun k_ => some k_ ≠ (v363 : Value).ownBlock ∧ some k_ ≠ (v366 : Value).ownBlock ∧ some k_ ≠ (v369 : Value).ownBlock ∧ some k_ ≠ (v372 : Value).ownBlock ∧ some k_ ≠ (v375 : Value).ownBlock ∧ some k_ ≠ (v378 : Value).ownBlock ∧ some k_ ≠ (.slice Ao44 t306.length co44 : Value).ownBlock ∧ some k_ ≠ (.slice Ao46 t309.length co46 : Value).ownBlock ∧ some k_ ≠ (.slice Ao57 t353.length co57 : Value).ownBlock ∧ some k_ ≠ (.slice Ao62 t355.length co62 : Value).ownBlock ∧ some k_ ≠ (.slice Ao68 t356.length co68 : Value).ownBlock ∧ some k_ ≠ (.slice Ao72 t328.length co72 : Value).ownBlock ∧ some k_ ≠ (.slice Ao79 t331.length co79 : Value).ownBlock) (.slice Ao52 t352.length co52) t352) := ⟨h8_⟩
             have n9_ : Aside0 (Kd.R (Kd.int .i64) 3 w169 w.heap.size (fun k_ => some k_ ≠ (v363 : Value).ownBlock ∧ some k_ ≠ (v366 : Value).ownBlock ∧ some k_ ≠ (v369 : Value).ownBlock ∧ some k_ ≠ (v372 : Value).ownBlock ∧ some k_ ≠ (v375 : Value).ownBlock ∧ some k_ ≠ (v378 : Value).ownBlock ∧ some k_ ≠ (.slice Ao44 t306.length co44 : Value).ownBlock ∧ some k_ ≠ (.slice Ao46 t309.length co46 : Value).ownBlock ∧ some k_ ≠ (.slice Ao52 t352.length co52 : Value).ownBlock ∧ some k_ ≠ (.slice Ao62 t355.length co62 : Value).ownBlock ∧ some k_ ≠ (.slice Ao68 t356.length co68 : Value).ownBlock ∧ some k_ ≠ (.slice Ao72 t328.length co72 : Value).ownBlock ∧ some k_ ≠ (.slice Ao79 t331.length co79 : Value).ownBlock) (.slice Ao57 t353.length co57) t353) := ⟨h9_⟩
             have n10_ : Aside0 (Kd.R (Kd.int .i64) 3 w169 w.heap.size (fun k_ => some k_ ≠ (v363 : Value).ownBlock ∧ some k_ ≠ (v366 : Value).ownBlock ∧ some k_ ≠ (v369 : Value).ownBlock ∧ some k_ ≠ (v372 : Value).ownBlock ∧ some k_ ≠ (v375 : Value).ownBlock ∧ some k_ ≠ (v378 : Value).ownBlock ∧ some k_ ≠ (.slice Ao44 t306.length co44 : Value).ownBlock ∧ some k_ ≠ (.slice Ao46 t309.length co46 : Value).ownBlock ∧ some k_ ≠ (.slice Ao52 t352.length co52 : Value).ownBlock ∧ some k_ ≠ (.slice Ao57 t353.length co57 : Value).ownBlock ∧ some k_ ≠ (.slice Ao68 t356.length co68 : Value).ownBlock ∧ some k_ ≠ (.slice Ao72 t328.length co72 : Value).ownBlock ∧ some k_ ≠ (.slice Ao79 t331.length co79 : Value).ownBlock) (.slice Ao62 t355.length co62) t355) := ⟨h10_⟩
             have n11_ : Aside0 (Kd.R (Kd.int .i64) 3 w169 w.heap.size (fun k_ => some k_ ≠ (v363 : Value).ownBlock ∧ some k_ ≠ (v366 : Value).ownBlock ∧ some k_ ≠ (v369 : Value).ownBlock ∧ some k_ ≠ (v372 : Value).ownBlock ∧ some k_ ≠ (v375 : Value).ownBlock ∧ some k_ ≠ (v378 : Value).ownBlock ∧ some k_ ≠ (.slice Ao44 t306.length co44 : Value).ownBlock ∧ some k_ ≠ (.slice Ao46 t309.length co46 : Value).ownBlock ∧ some k_ ≠ (.slice Ao52 t352.length co52 : Value).ownBlock ∧ some k_ ≠ (.slice Ao57 t353.length co57 : Value).ownBlock ∧ some k_ ≠ (.slice Ao62 t355.length co62 : Value).ownBlock ∧ some k_ ≠ (.slice Ao72 t328.length co72 : Value).ownBlock ∧ some k_ ≠ (.slice Ao79 t331.length co79 : Value).ownBlock) (.slice Ao68 t356.length co68) t356) := ⟨h11_⟩
             have n12_ : Aside0 (Kd.R (Kd.int .i64) 3 w169 w.heap.size (fun k_ => some k_ ≠ (v363 : Value).ownBlock ∧ some k_ ≠ (v366 : Value).ownBlock ∧ some k_ ≠ (v369 : Value).ownBlock ∧ some k_ ≠ (v372 : Value).ownBlock ∧ some k_ ≠ (v375 : Value).ownBlock ∧ some k_ ≠ (v378 : Value).ownBlock ∧ some k_ ≠ (.slice Ao44 t306.length co44 : Value).ownBlock ∧ some k_ ≠ (.slice Ao46 t309.length co46 : Value).ownBlock ∧ some k_ ≠ (.slice Ao52 t352.length co52 : Value).ownBlock ∧ some k_ ≠ (.slice Ao57 t353.length co57 : Value).ownBlock ∧ some k_ ≠ (.slice Ao62 t355.length co62 : Value).ownBlock ∧ some k_ ≠ (.slice Ao68 t356.length co68 : Value).ownBlock ∧ some k_ ≠ (.slice Ao79 t331.length co79 : Value).ownBlock) (.slice Ao72 t328.length co72) t359) := ⟨h12_⟩
             have n13_ : Aside0 (Kd.R (Kd.int .i64) 3 w169 w.heap.size (fun k_ => some k_ ≠ (v363 : Value).ownBlock ∧ some k_ ≠ (v366 : Value).ownBlock ∧ some k_ ≠ (v369 : Value).ownBlock ∧ some k_ ≠ (v372 : Value).ownBlock ∧ some k_ ≠ (v375 : Value).ownBlock ∧ some k_ ≠ (v378 : Value).ownBlock ∧ some k_ ≠ (.slice Ao44 t306.length co44 : Value).ownBlock ∧ some k_ ≠ (.slice Ao46 t309.length co46 : Value).ownBlock ∧ some k_ ≠ (.slice Ao52 t352.length co52 : Value).ownBlock ∧ some k_ ≠ (.slice Ao57 t353.length co57 : Value).ownBlock ∧ some k_ ≠ (.slice Ao62 t355.length co62 : Value).ownBlock ∧ some k_ ≠ (.slice Ao68 t356.length co68 : Value).ownBlock ∧ some k_ ≠ (.slice Ao72 t328.length co72 : Value).ownBlock) (.slice Ao79 t331.length co79) t360) := ⟨h13_⟩
             have n14_ : Aside0 (w169.heap[gb290]? = some (.cells #[.slice A1_0 l1_0.length c1_0, .slice A1_1 l1_1.length c1_1] 24 (0, 0))) := ⟨h14_⟩
             have n15_ : Aside0 (w169.heap[gb291]? = some (.cells #[.slice A2_0 l2_0.length c2_0, .slice A2_1 l2_1.length c2_1] 24 (0, 0))) := ⟨h15_⟩
             have n16_ : Aside0 (w169.heap[gb313]? = some (.cells #[.slice Ao44 t306.length co44, .slice Ao46 t309.length co46] 26 (0, 0))) := ⟨h16_⟩
             have n17_ : Aside0 (w169.heap[gb320]? = some (.cells #[.slice Ao52 t352.length co52, .slice Ao57 t353.length co57] 26 (0, 0))) := ⟨h17_⟩
             have n18_ : Aside0 (w169.heap[gb327]? = some (.cells #[.slice Ao62 t355.length co62, .slice Ao68 t356.length co68] 26 (0, 0))) := ⟨h18_⟩
             have n19_ : Aside0 (w169.heap[gb335]? = some (.cells #[.slice Ao72 t328.length co72, .slice Ao79 t331.length co79] 26 (0, 0))) := ⟨h19_⟩
             have n20_ : Aside0 (w169.heap[gb381]? = some (.cells #[.slice none 0 0, .slice none 0 0] 26 (0, 0))) := ⟨h20_⟩
             have n21_ : Aside0 (w.heap.size ≤ gb381) := ⟨h21_⟩
             have n22_ : Aside0 (w.heap.size ≤ gb381) := ⟨h22_⟩
             have n23_ : Aside0 (gb290 ≠ gb381) := ⟨h23_⟩
             have n24_ : Aside0 (gb381 ≠ gb290) := ⟨h24_⟩
             have n25_ : Aside0 (gb291 ≠ gb381) := ⟨h25_⟩
             have n26_ : Aside0 (gb381 ≠ gb291) := ⟨h26_⟩
             have n27_ : Aside0 (gb313 ≠ gb381) := ⟨h27_⟩
             have n28_ : Aside0 (gb381 ≠ gb313) := ⟨h28_⟩
             have n29_ : Aside0 (gb320 ≠ gb381) := ⟨h29_⟩
             have n30_ : Aside0 (gb381 ≠ gb320) := ⟨h30_⟩
             have n31_ : Aside0 (gb327 ≠ gb381) := ⟨h31_⟩
             have n32_ : Aside0 (gb381 ≠ gb327) := ⟨h32_⟩
             have n33_ : Aside0 (gb335 ≠ gb381) := ⟨h33_⟩
             have n34_ : Aside0 (gb381 ≠ gb335) := ⟨h34_⟩
             have n35_ : Aside0 (Below w.heap.size w w169) := ⟨h35_⟩
             clear HO_314000 HO_314001 HO_321000 HO_321001 HO_328000 HO_328001 HO_336000 HO_336001 BK290 BK291 BK313 BK320 BK327 BK335 HB
             clear h0_ h1_ h2_ h3_ h4_ h5_ h6_ h7_ h8_ h9_ h10_ h11_ h12_ h13_ h14_ h15_ h16_ h17_ h18_ h19_ h20_ h21_ h22_ h23_ h24_ h25_ h26_ h27_ h28_ h29_ h30_ h31_ h32_ h33_ h34_ h35_
             have HO364 := n0_
             have HO367 := n1_
             have HO370 := n2_
             have HO373 := n3_
             have HO376 := n4_
             have HO379 := n5_
             have HO_314000 := n6_
             have HO_314001 := n7_
             have HO_321000 := n8_
             have HO_321001 := n9_
             have HO_328000 := n10_
             have HO_328001 := n11_
             have HO_336000 := n12_
             have HO_336001 := n13_
             have BK290 := n14_
             have BK291 := n15_
             have BK313 := n16_
             have BK320 := n17_
             have BK327 := n18_
             have BK335 := n19_
             have BK381 := n20_
             have GW381 := n21_
             have GE381 := n22_
             have NB290_381 := n23_
             have NB381_290 := n24_
             have NB291_381 := n25_
             have NB381_291 := n26_
             have NB313_381 := n27_
             have NB381_313 := n28_
             have NB320_381 := n29_
             have NB381_320 := n30_
             have NB327_381 := n31_
             have NB381_327 := n32_
             have NB335_381 := n33_
             have NB381_335 := n34_
             have HB := n35_
             clear n0_ n1_ n2_ n3_ n4_ n5_ n6_ n7_ n8_ n9_ n10_ n11_ n12_ n13_ n14_ n15_ n16_ n17_ n18_ n19_ n20_ n21_ n22_ n23_ n24_ n25_ n26_ n27_ n28_ n29_ n30_ n31_ n32_ n33_ n34_ n35_
             have hHeld : w169.cell? ⟨gb290, 0, none⟩ = some (.slice A1_0 l1_0.length c1_0) ∧ w169.cell? ⟨gb290, 1, none⟩ = some (.slice A1_1 l1_1.length c1_1) ∧ w169.cell? ⟨gb291, 0, none⟩ = some (.slice A2_0 l2_0.length c2_0) ∧ w169.cell? ⟨gb291, 1, none⟩ = some (.slice A2_1 l2_1.length c2_1) := hS_
             obtain ⟨Ao170, co170, eo170⟩ := Kd.R_slice HO376.out
             (first | subst eo170 | (injection eo170 with f1_ f2_ f3_; have f4_ := f1_.symm; have f5_ := f3_.symm; clear f1_ f2_ f3_; subst f4_; subst f5_))
             obtain ⟨Ao172, co172, eo172⟩ := Kd.R_slice HO379.out
             (first | subst eo172 | (injection eo172 with f1_ f2_ f3_; have f4_ := f1_.symm; have f5_ := f3_.symm; clear f1_ f2_ f3_; subst f4_; subst f5_))
             refine norm_ (a' := ?_) ?_ ?_
             rotate_left
             ·
              simp only [putAll, Act.put, List.setIfInBounds_toArray, List.set_cons_zero, List.set_cons_succ]
              rfl
             refine one_ (i := 10) (N := none) #[true, true, true, true, true, true, true, true, true, true, true, false] rfl rfl (one_of HT_.out (by kernel_rfl)) (by decide) (fun K hK => ?_)
             have hs171 : w169.cell? ⟨gb381, 0, none⟩ = some (.slice none 0 0) := (blk_cell BK381.out 0).trans rfl
             have hfs171 := blk_frozen BK381.out 0
             have hns171_0 := NB290_381.out
             have hns171_1 := NB291_381.out
             have hns171_2 := NB313_381.out
             have hns171_3 := NB320_381.out
             have hns171_4 := NB327_381.out
             have hns171_5 := NB335_381.out
             have hms171_0 := NB381_290.out
             have hms171_1 := NB381_291.out
             have hms171_2 := NB381_313.out
             have hms171_3 := NB381_320.out
             have hms171_4 := NB381_327.out
             have hms171_5 := NB381_335.out
             have hs173 : w169.cell? ⟨gb381, 1, none⟩ = some (.slice none 0 0) := (blk_cell BK381.out 1).trans rfl
             have hfs173 := blk_frozen BK381.out 1
             have hns173_0 := NB290_381.out
             have hns173_1 := NB291_381.out
             have hns173_2 := NB313_381.out
             have hns173_3 := NB320_381.out
             have hns173_4 := NB327_381.out
             have hns173_5 := NB335_381.out
             have hms173_0 := NB381_290.out
             have hms173_1 := NB381_291.out
             have hms173_2 := NB381_313.out
             have hms173_3 := NB381_320.out
             have hms173_4 := NB381_327.out
             have hms173_5 := NB381_335.out
             refine skip_ (w1 := ?_) (by rfl) rfl ?_ ?_
             rotate_left
             ·
              go_simp
              rfl
             refine hK.out _ _ ⟨((cell_far (p := ⟨gb381, _, none⟩) NB290_381.out _).trans (((cell_far (p := ⟨gb381, _, none⟩) NB290_381.out _).trans (hHeld.1)))), ((cell_far (p := ⟨gb381, _, none⟩) NB290_381.out _).trans (((cell_far (p := ⟨gb381, _, none⟩) NB290_381.out _).trans (hHeld.2.1)))), ((cell_far (p := ⟨gb381, _, none⟩) NB291_381.out _).trans (((cell_far (p := ⟨gb381, _, none⟩) NB291_381.out _).trans (hHeld.2.2.1)))), ((cell_far (p := ⟨gb381, _, none⟩) NB291_381.out _).trans (((cell_far (p := ⟨gb381, _, none⟩) NB291_381.out _).trans (hHeld.2.2.2))))⟩ (fun hHeld => ?_)
             clear hK K
             refine pure_ (i := 11) (N := some 18) (v := ?_) (a' := ?_) #[true, true, true, true, true, true, true, true, true, true, true, true] rfl rfl (any_of HT_.out (by kernel_rfl)) (fun _ _ _ h => h) (Or.inl ⟨by rfl, ?_⟩) ?_ ?_
             rotate_left
             ·
              intro w'
              go_simp
              with_reducible rfl
             rotate_left
             ·
              simp only [Act.put, List.setIfInBounds_toArray, List.set_cons_zero, List.set_cons_succ, i64_w, i32_w]
              rfl
             refine done_ (done_of HT_.out (by kernel_rfl)) ?_
             go_upto_region 32 with (fail)
             go_cut [115] (fun v115 wc => ∃ (kq : Nat) (x115_149 : Bool), v115 = .bool x115_149 ∧ Aside0 (laws_FnExactEachTwo.j2 kq t358 x115_149 t359 t360 = some r) ∧ Aside0 (kq ≤ kj102) ∧ Aside0 (Kd.R (Kd.int .i64) 3 wc w.heap.size (fun k_ => some k_ ≠ ((.slice Ao46 t309.length co46) : Value).ownBlock ∧ some k_ ≠ ((.slice Ao52 t352.length co52) : Value).ownBlock ∧ some k_ ≠ ((.slice Ao57 t353.length co57) : Value).ownBlock ∧ some k_ ≠ ((.slice Ao62 t355.length co62) : Value).ownBlock ∧ some k_ ≠ ((.slice Ao68 t356.length co68) : Value).ownBlock ∧ some k_ ≠ ((.slice Ao72 t328.length co72) : Value).ownBlock ∧ some k_ ≠ ((.slice Ao79 t331.length co79) : Value).ownBlock ∧ some k_ ≠ ((.slice Ao170 t374.length co170) : Value).ownBlock ∧ some k_ ≠ ((.slice Ao172 t377.length co172) : Value).ownBlock) (.slice Ao44 t306.length co44) t306) ∧ Aside0 (Kd.R (Kd.int .i64) 3 wc w.heap.size (fun k_ => some k_ ≠ ((.slice Ao44 t306.length co44) : Value).ownBlock ∧ some k_ ≠ ((.slice Ao52 t352.length co52) : Value).ownBlock ∧ some k_ ≠ ((.slice Ao57 t353.length co57) : Value).ownBlock ∧ some k_ ≠ ((.slice Ao62 t355.length co62) : Value).ownBlock ∧ some k_ ≠ ((.slice Ao68 t356.length co68) : Value).ownBlock ∧ some k_ ≠ ((.slice Ao72 t328.length co72) : Value).ownBlock ∧ some k_ ≠ ((.slice Ao79 t331.length co79) : Value).ownBlock ∧ some k_ ≠ ((.slice Ao170 t374.length co170) : Value).ownBlock ∧ some k_ ≠ ((.slice Ao172 t377.length co172) : Value).ownBlock) (.slice Ao46 t309.length co46) t309) ∧ Aside0 (Kd.R (Kd.int .i64) 3 wc w.heap.size (fun k_ => some k_ ≠ ((.slice Ao44 t306.length co44) : Value).ownBlock ∧ some k_ ≠ ((.slice Ao46 t309.length co46) : Value).ownBlock ∧ some k_ ≠ ((.slice Ao57 t353.length co57) : Value).ownBlock ∧ some k_ ≠ ((.slice Ao62 t355.length co62) : Value).ownBlock ∧ some k_ ≠ ((.slice Ao68 t356.length co68) : Value).ownBlock ∧ some k_ ≠ ((.slice Ao72 t328.length co72) : Value).ownBlock ∧ some k_ ≠ ((.slice Ao79 t331.length co79) : Value).ownBlock ∧ some k_ ≠ ((.slice Ao170 t374.length co170) : Value).ownBlock ∧ some k_ ≠ ((.slice Ao172 t377.length co172) : Value).ownBlock) (.slice Ao52 t352.length co52) t352) ∧ Aside0 (Kd.R (Kd.int .i64) 3 wc w.heap.size (fun k_ => some k_ ≠ ((.slice Ao44 t306.length co44) : Value).ownBlock ∧ some k_ ≠ ((.slice Ao46 t309.length co46) : Value).ownBlock ∧ some k_ ≠ ((.slice Ao52 t352.length co52) : Value).ownBlock ∧ some k_ ≠ ((.slice Ao62 t355.length co62) : Value).ownBlock ∧ some k_ ≠ ((.slice Ao68 t356.length co68) : Value).ownBlock ∧ some k_ ≠ ((.slice Ao72 t328.length co72) : Value).ownBlock ∧ some k_ ≠ ((.slice Ao79 t331.length co79) : Value).ownBlock ∧ some k_ ≠ ((.slice Ao170 t374.length co170) : Value).ownBlock ∧ some k_ ≠ ((.slice Ao172 t377.length co172) : Value).ownBlock) (.slice Ao57 t353.length co57) t353) ∧ Aside0 (Kd.R (Kd.int .i64) 3 wc w.heap.size (fun k_ => some k_ ≠ ((.slice Ao44 t306.length co44) : Value).ownBlock ∧ some k_ ≠ ((.slice Ao46 t309.length co46) : Value).ownBlock ∧ some k_ ≠ ((.slice Ao52 t352.length co52) : Value).ownBlock ∧ some k_ ≠ ((.slice Ao57 t353.length co57) : Value).ownBlock ∧ some k_ ≠ ((.slice Ao68 t356.length co68) : Value).ownBlock ∧ some k_ ≠ ((.slice Ao72 t328.length co72) : Value).ownBlock ∧ some k_ ≠ ((.slice Ao79 t331.length co79) : Value).ownBlock ∧ some k_ ≠ ((.slice Ao170 t374.length co170) : Value).ownBlock ∧ some k_ ≠ ((.slice Ao172 t377.length co172) : Value).ownBlock) (.slice Ao62 t355.length co62) t355) ∧ Aside0 (Kd.R (Kd.int .i64) 3 wc w.heap.size (fun k_ => some k_ ≠ ((.slice Ao44 t306.length co44) : Value).ownBlock ∧ some k_ ≠ ((.slice Ao46 t309.length co46) : Value).ownBlock ∧ some k_ ≠ ((.slice Ao52 t352.length co52) : Value).ownBlock ∧ some k_ ≠ ((.slice Ao57 t353.length co57) : Value).ownBlock ∧ some k_ ≠ ((.slice Ao62 t355.length co62) : Value).ownBlock ∧ some k_ ≠ ((.slice Ao72 t328.length co72) : Value).ownBlock ∧ some k_ ≠ ((.slice Ao79 t331.length co79) : Value).ownBlock ∧ some k_ ≠ ((.slice Ao170 t374.length co170) : Value).ownBlock ∧ some k_ ≠ ((.slice Ao172 t377.length co172) : Value).ownBlock) (.slice Ao68 t356.length co68) t356) ∧ Aside0 (Kd.R (Kd.int .i64) 3 wc w.heap.size (fun k_ => some k_ ≠ ((.slice Ao44 t306.length co44) : Value).ownBlock ∧ some k_ ≠ ((.slice Ao46 t309.length co46) : Value).ownBlock ∧ some k_ ≠ ((.slice Ao52 t352.length co52) : Value).ownBlock ∧ some k_ ≠ ((.slice Ao57 t353.length co57) : Value).ownBlock ∧ some k_ ≠ ((.slice Ao62 t355.length co62) : Value).ownBlock ∧ some k_ ≠ ((.slice Ao68 t356.length co68) : Value).ownBlock ∧ some k_ ≠ ((.slice Ao79 t331.length co79) : Value).ownBlock ∧ some k_ ≠ ((.slice Ao170 t374.length co170) : Value).ownBlock ∧ some k_ ≠ ((.slice Ao172 t377.length co172) : Value).ownBlock) (.slice Ao72 t328.length co72) t359) ∧ Aside0 (Kd.R (Kd.int .i64) 3 wc w.heap.size (fun k_ => some k_ ≠ ((.slice Ao44 t306.length co44) : Value).ownBlock ∧ some k_ ≠ ((.slice Ao46 t309.length co46) : Value).ownBlock ∧ some k_ ≠ ((.slice Ao52 t352.length co52) : Value).ownBlock ∧ some k_ ≠ ((.slice Ao57 t353.length co57) : Value).ownBlock ∧ some k_ ≠ ((.slice Ao62 t355.length co62) : Value).ownBlock ∧ some k_ ≠ ((.slice Ao68 t356.length co68) : Value).ownBlock ∧ some k_ ≠ ((.slice Ao72 t328.length co72) : Value).ownBlock ∧ some k_ ≠ ((.slice Ao170 t374.length co170) : Value).ownBlock ∧ some k_ ≠ ((.slice Ao172 t377.length co172) : Value).ownBlock) (.slice Ao79 t331.length co79) t360) ∧ Aside0 (Kd.R (Kd.int .i64) 3 wc w.heap.size (fun k_ => some k_ ≠ ((.slice Ao44 t306.length co44) : Value).ownBlock ∧ some k_ ≠ ((.slice Ao46 t309.length co46) : Value).ownBlock ∧ some k_ ≠ ((.slice Ao52 t352.length co52) : Value).ownBlock ∧ some k_ ≠ ((.slice Ao57 t353.length co57) : Value).ownBlock ∧ some k_ ≠ ((.slice Ao62 t355.length co62) : Value).ownBlock ∧ some k_ ≠ ((.slice Ao68 t356.length co68) : Value).ownBlock ∧ some k_ ≠ ((.slice Ao72 t328.length co72) : Value).ownBlock ∧ some k_ ≠ ((.slice Ao79 t331.length co79) : Value).ownBlock ∧ some k_ ≠ ((.slice Ao172 t377.length co172) : Value).ownBlock) (.slice Ao170 t374.length co170) t374) ∧ Aside0 (Kd.R (Kd.int .i64) 3 wc w.heap.size (fun k_ => some k_ ≠ ((.slice Ao44 t306.length co44) : Value).ownBlock ∧ some k_ ≠ ((.slice Ao46 t309.length co46) : Value).ownBlock ∧ some k_ ≠ ((.slice Ao52 t352.length co52) : Value).ownBlock ∧ some k_ ≠ ((.slice Ao57 t353.length co57) : Value).ownBlock ∧ some k_ ≠ ((.slice Ao62 t355.length co62) : Value).ownBlock ∧ some k_ ≠ ((.slice Ao68 t356.length co68) : Value).ownBlock ∧ some k_ ≠ ((.slice Ao72 t328.length co72) : Value).ownBlock ∧ some k_ ≠ ((.slice Ao79 t331.length co79) : Value).ownBlock ∧ some k_ ≠ ((.slice Ao170 t374.length co170) : Value).ownBlock) (.slice Ao172 t377.length co172) t377) ∧ Aside0 (wc.heap[gb290]? = some (.cells #[(.slice A1_0 l1_0.length c1_0), (.slice A1_1 l1_1.length c1_1)] 24 (0, 0))) ∧ Aside0 (wc.heap[gb291]? = some (.cells #[(.slice A2_0 l2_0.length c2_0), (.slice A2_1 l2_1.length c2_1)] 24 (0, 0))) ∧ Aside0 (wc.heap[gb313]? = some (.cells #[(.slice Ao44 t306.length co44), (.slice Ao46 t309.length co46)] 26 (0, 0))) ∧ Aside0 (wc.heap[gb320]? = some (.cells #[(.slice Ao52 t352.length co52), (.slice Ao57 t353.length co57)] 26 (0, 0))) ∧ Aside0 (wc.heap[gb327]? = some (.cells #[(.slice Ao62 t355.length co62), (.slice Ao68 t356.length co68)] 26 (0, 0))) ∧ Aside0 (wc.heap[gb335]? = some (.cells #[(.slice Ao72 t328.length co72), (.slice Ao79 t331.length co79)] 26 (0, 0))) ∧ Aside0 (wc.heap[gb381]? = some (.cells #[(.slice Ao170 t374.length co170), (.slice Ao172 t377.length co172)] 26 (0, 0))) ∧ Aside0 (Below w.heap.size w wc))
             case first =>
              have H := HC150.out
              clear HC150
              replace H := Option.bind_eq_some_iff.mp H
              obtain ⟨t382, A1740, H⟩ := H
              replace H : (if t382 = true then (laws_FnExactEachTwo.j2 kj102 t358 (t380 != t312) t359 t360) else (laws_FnExactEachTwo.j2 kj102 t358 true t359 t360)) = some r := H
              have A174 := Aside0.mk A1740
              clear A1740
              by_cases c175 : t382 = true
              ·
               subst c175
               have H1 : (laws_FnExactEachTwo.j2 kj102 t358 (t380 != t312) t359 t360) = some r := by rw [if_pos rfl] at H; exact H
               clear H
               have H := H1
               clear H1
               have H' := Aside0.mk H
               clear H
               have hnb176 := NB381_290.out
               have hnc176 := NB290_381.out
               have hnb177 := NB381_291.out
               have hnc177 := NB291_381.out
               have hnb178 := NB381_313.out
               have hnc178 := NB313_381.out
               have hnb179 := NB381_320.out
               have hnc179 := NB320_381.out
               have hnb180 := NB381_327.out
               have hnc180 := NB327_381.out
               have hnb181 := NB381_335.out
               have hnc181 := NB335_381.out
               have hcz182_0 : w169.cell? ⟨gb381, 0, none⟩ = some (.slice none 0 0) := (blk_cell BK381.out 0).trans rfl
               have hcz182_1 : w169.cell? ⟨gb381, 1, none⟩ = some (.slice none 0 0) := (blk_cell BK381.out 1).trans rfl
               have hfz182_0 := blk_frozen BK381.out 0
               have hfz182_1 := blk_frozen BK381.out 1
               have hnb183 := NB313_290.out
               have hnc183 := NB290_313.out
               have hnb184 := NB313_291.out
               have hnc184 := NB291_313.out
               have hnb185 := NB313_320.out
               have hnc185 := NB320_313.out
               have hnb186 := NB313_327.out
               have hnc186 := NB327_313.out
               have hnb187 := NB313_335.out
               have hnc187 := NB335_313.out
               have hcz188_0 : w169.cell? ⟨gb313, 0, none⟩ = some (.slice Ao44 t306.length co44) := (blk_cell BK313.out 0).trans rfl
               have hcz188_1 : w169.cell? ⟨gb313, 1, none⟩ = some (.slice Ao46 t309.length co46) := (blk_cell BK313.out 1).trans rfl
               have hfz188_0 := blk_frozen BK313.out 0
               have hfz188_1 := blk_frozen BK313.out 1
               go_wp2_with (first | ((with_reducible refine gate_callee (f := 9) rfl ?_); refine goesL_ (some 109) rfl rfl Try.func9 (by kernel_rfl) rfl #[.agg #[.slice Ao170 t374.length co170, .slice Ao172 t377.length co172], .agg #[.slice Ao44 t306.length co44, .slice Ao46 t309.length co46]] rfl (by (try simp only [List.map_toArray, List.map_cons, List.map_nil]); first | done | rfl | (simp only [List.length_drop, List.length_take]; rfl)) ?_; (with_reducible refine (laws_eqArray.calls kj102 _ _ t374 _ _ t377 _ _ t306 _ _ t309 true _ ?side1 ?side2 ?side3 ?side4 ?side5 ?side6 ?side7 ?side8 A174.out).mono ?_); (case side1 => refine (Kd.R_reads' (e := 3) (base := w.heap.size) (ok := fun k_ => (some k_ ≠ (v363 : Value).ownBlock ∧ (some k_ ≠ (v366 : Value).ownBlock ∧ (some k_ ≠ (v369 : Value).ownBlock ∧ (some k_ ≠ (v372 : Value).ownBlock ∧ (some k_ ≠ (.slice Ao172 t377.length co172 : Value).ownBlock ∧ (some k_ ≠ (.slice Ao44 t306.length co44 : Value).ownBlock ∧ (some k_ ≠ (.slice Ao46 t309.length co46 : Value).ownBlock ∧ (some k_ ≠ (.slice Ao52 t352.length co52 : Value).ownBlock ∧ (some k_ ≠ (.slice Ao57 t353.length co57 : Value).ownBlock ∧ (some k_ ≠ (.slice Ao62 t355.length co62 : Value).ownBlock ∧ (some k_ ≠ (.slice Ao68 t356.length co68 : Value).ownBlock ∧ (some k_ ≠ (.slice Ao72 t328.length co72 : Value).ownBlock ∧ some k_ ≠ (.slice Ao79 t331.length co79 : Value).ownBlock))))))))))))) (n := t374.length) (c := co170) ?_).2.2; exact (by (with_reducible repeat (first | apply Kd.R_alloc | apply Kd.R_drewN | apply Kd.R_drew)); exact (far2 HO376.out BK381.out))); (case side2 => exact (Kd.R_reads' HO376.out).2.1); (case side3 => refine (Kd.R_reads' (e := 3) (base := w.heap.size) (ok := fun k_ => (some k_ ≠ (v363 : Value).ownBlock ∧ (some k_ ≠ (v366 : Value).ownBlock ∧ (some k_ ≠ (v369 : Value).ownBlock ∧ (some k_ ≠ (v372 : Value).ownBlock ∧ (some k_ ≠ (.slice Ao170 t374.length co170 : Value).ownBlock ∧ (some k_ ≠ (.slice Ao44 t306.length co44 : Value).ownBlock ∧ (some k_ ≠ (.slice Ao46 t309.length co46 : Value).ownBlock ∧ (some k_ ≠ (.slice Ao52 t352.length co52 : Value).ownBlock ∧ (some k_ ≠ (.slice Ao57 t353.length co57 : Value).ownBlock ∧ (some k_ ≠ (.slice Ao62 t355.length co62 : Value).ownBlock ∧ (some k_ ≠ (.slice Ao68 t356.length co68 : Value).ownBlock ∧ (some k_ ≠ (.slice Ao72 t328.length co72 : Value).ownBlock ∧ some k_ ≠ (.slice Ao79 t331.length co79 : Value).ownBlock))))))))))))) (n := t377.length) (c := co172) ?_).2.2; exact (by (with_reducible repeat (first | apply Kd.R_alloc | apply Kd.R_drewN | apply Kd.R_drew)); exact (far2 HO379.out BK381.out))); (case side4 => exact (Kd.R_reads' HO379.out).2.1); (case side5 => refine (Kd.R_reads' (e := 3) (base := w.heap.size) (ok := fun k_ => (some k_ ≠ (v363 : Value).ownBlock ∧ (some k_ ≠ (v366 : Value).ownBlock ∧ (some k_ ≠ (v369 : Value).ownBlock ∧ (some k_ ≠ (v372 : Value).ownBlock ∧ (some k_ ≠ (.slice Ao170 t374.length co170 : Value).ownBlock ∧ (some k_ ≠ (.slice Ao172 t377.length co172 : Value).ownBlock ∧ (some k_ ≠ (.slice Ao46 t309.length co46 : Value).ownBlock ∧ (some k_ ≠ (.slice Ao52 t352.length co52 : Value).ownBlock ∧ (some k_ ≠ (.slice Ao57 t353.length co57 : Value).ownBlock ∧ (some k_ ≠ (.slice Ao62 t355.length co62 : Value).ownBlock ∧ (some k_ ≠ (.slice Ao68 t356.length co68 : Value).ownBlock ∧ (some k_ ≠ (.slice Ao72 t328.length co72 : Value).ownBlock ∧ some k_ ≠ (.slice Ao79 t331.length co79 : Value).ownBlock))))))))))))) (n := t306.length) (c := co44) ?_).2.2; exact (by (with_reducible repeat (first | apply Kd.R_alloc | apply Kd.R_drewN | apply Kd.R_drew)); exact (far2 HO_314000.out BK381.out))); (case side6 => exact (Kd.R_reads' HO_314000.out).2.1); (case side7 => refine (Kd.R_reads' (e := 3) (base := w.heap.size) (ok := fun k_ => (some k_ ≠ (v363 : Value).ownBlock ∧ (some k_ ≠ (v366 : Value).ownBlock ∧ (some k_ ≠ (v369 : Value).ownBlock ∧ (some k_ ≠ (v372 : Value).ownBlock ∧ (some k_ ≠ (.slice Ao170 t374.length co170 : Value).ownBlock ∧ (some k_ ≠ (.slice Ao172 t377.length co172 : Value).ownBlock ∧ (some k_ ≠ (.slice Ao44 t306.length co44 : Value).ownBlock ∧ (some k_ ≠ (.slice Ao52 t352.length co52 : Value).ownBlock ∧ (some k_ ≠ (.slice Ao57 t353.length co57 : Value).ownBlock ∧ (some k_ ≠ (.slice Ao62 t355.length co62 : Value).ownBlock ∧ (some k_ ≠ (.slice Ao68 t356.length co68 : Value).ownBlock ∧ (some k_ ≠ (.slice Ao72 t328.length co72 : Value).ownBlock ∧ some k_ ≠ (.slice Ao79 t331.length co79 : Value).ownBlock))))))))))))) (n := t309.length) (c := co46) ?_).2.2; exact (by (with_reducible repeat (first | apply Kd.R_alloc | apply Kd.R_drewN | apply Kd.R_drew)); exact (far2 HO_314001.out BK381.out))); (case side8 => exact (Kd.R_reads' HO_314001.out).2.1); rintro e w189 ⟨rfl, hb⟩; refine ⟨_, rfl, ?_⟩; replace HO_314000 := Aside0.mk (Kd.R_below (by (with_reducible repeat (first | apply Kd.R_alloc | apply Kd.R_drewN | apply Kd.R_drew)); exact (far2 HO_314000.out BK381.out)) hb); replace HO_314001 := Aside0.mk (Kd.R_below (by (with_reducible repeat (first | apply Kd.R_alloc | apply Kd.R_drewN | apply Kd.R_drew)); exact (far2 HO_314001.out BK381.out)) hb); replace HO_321000 := Aside0.mk (Kd.R_below (by (with_reducible repeat (first | apply Kd.R_alloc | apply Kd.R_drewN | apply Kd.R_drew)); exact (far2 HO_321000.out BK381.out)) hb); replace HO_321001 := Aside0.mk (Kd.R_below (by (with_reducible repeat (first | apply Kd.R_alloc | apply Kd.R_drewN | apply Kd.R_drew)); exact (far2 HO_321001.out BK381.out)) hb); replace HO_328000 := Aside0.mk (Kd.R_below (by (with_reducible repeat (first | apply Kd.R_alloc | apply Kd.R_drewN | apply Kd.R_drew)); exact (far2 HO_328000.out BK381.out)) hb); replace HO_328001 := Aside0.mk (Kd.R_below (by (with_reducible repeat (first | apply Kd.R_alloc | apply Kd.R_drewN | apply Kd.R_drew)); exact (far2 HO_328001.out BK381.out)) hb); replace HO_336000 := Aside0.mk (Kd.R_below (by (with_reducible repeat (first | apply Kd.R_alloc | apply Kd.R_drewN | apply Kd.R_drew)); exact (far2 HO_336000.out BK381.out)) hb); replace HO_336001 := Aside0.mk (Kd.R_below (by (with_reducible repeat (first | apply Kd.R_alloc | apply Kd.R_drewN | apply Kd.R_drew)); exact (far2 HO_336001.out BK381.out)) hb); replace HO364 := Aside0.mk (Kd.R_below (by (with_reducible repeat (first | apply Kd.R_alloc | apply Kd.R_drewN | apply Kd.R_drew)); exact (far2 HO364.out BK381.out)) hb); replace HO367 := Aside0.mk (Kd.R_below (by (with_reducible repeat (first | apply Kd.R_alloc | apply Kd.R_drewN | apply Kd.R_drew)); exact (far2 HO367.out BK381.out)) hb); replace HO370 := Aside0.mk (Kd.R_below (by (with_reducible repeat (first | apply Kd.R_alloc | apply Kd.R_drewN | apply Kd.R_drew)); exact (far2 HO370.out BK381.out)) hb); replace HO373 := Aside0.mk (Kd.R_below (by (with_reducible repeat (first | apply Kd.R_alloc | apply Kd.R_drewN | apply Kd.R_drew)); exact (far2 HO373.out BK381.out)) hb); replace HO376 := Aside0.mk (Kd.R_below (by (with_reducible repeat (first | apply Kd.R_alloc | apply Kd.R_drewN | apply Kd.R_drew)); exact (far2 HO376.out BK381.out)) hb); replace HO379 := Aside0.mk (Kd.R_below (by (with_reducible repeat (first | apply Kd.R_alloc | apply Kd.R_drewN | apply Kd.R_drew)); exact (far2 HO379.out BK381.out)) hb); replace BK290 := Aside0.mk (blk_below (g := gb290) (o := .cells #[.slice A1_0 l1_0.length c1_0, .slice A1_1 l1_1.length c1_1] 24 (0, 0)) (by (with_reducible repeat (first | refine blk_drewN ?_ _ | refine blk_drew ?_ | refine blk_alloc ?_ _)); refine blk_far ?_ NB290_381.out _; (with_reducible repeat (first | refine blk_drewN ?_ _ | refine blk_drew ?_ | refine blk_alloc ?_ _)); refine blk_far ?_ NB290_381.out _; (with_reducible repeat (first | refine blk_drewN ?_ _ | refine blk_drew ?_ | refine blk_alloc ?_ _)); exact BK290.out) hb); replace BK291 := Aside0.mk (blk_below (g := gb291) (o := .cells #[.slice A2_0 l2_0.length c2_0, .slice A2_1 l2_1.length c2_1] 24 (0, 0)) (by (with_reducible repeat (first | refine blk_drewN ?_ _ | refine blk_drew ?_ | refine blk_alloc ?_ _)); refine blk_far ?_ NB291_381.out _; (with_reducible repeat (first | refine blk_drewN ?_ _ | refine blk_drew ?_ | refine blk_alloc ?_ _)); refine blk_far ?_ NB291_381.out _; (with_reducible repeat (first | refine blk_drewN ?_ _ | refine blk_drew ?_ | refine blk_alloc ?_ _)); exact BK291.out) hb); replace BK313 := Aside0.mk (blk_below (g := gb313) (o := .cells #[.slice Ao44 t306.length co44, .slice Ao46 t309.length co46] 26 (0, 0)) (by (with_reducible repeat (first | refine blk_drewN ?_ _ | refine blk_drew ?_ | refine blk_alloc ?_ _)); refine blk_far ?_ NB313_381.out _; (with_reducible repeat (first | refine blk_drewN ?_ _ | refine blk_drew ?_ | refine blk_alloc ?_ _)); refine blk_far ?_ NB313_381.out _; (with_reducible repeat (first | refine blk_drewN ?_ _ | refine blk_drew ?_ | refine blk_alloc ?_ _)); exact BK313.out) hb); replace BK320 := Aside0.mk (blk_below (g := gb320) (o := .cells #[.slice Ao52 t352.length co52, .slice Ao57 t353.length co57] 26 (0, 0)) (by (with_reducible repeat (first | refine blk_drewN ?_ _ | refine blk_drew ?_ | refine blk_alloc ?_ _)); refine blk_far ?_ NB320_381.out _; (with_reducible repeat (first | refine blk_drewN ?_ _ | refine blk_drew ?_ | refine blk_alloc ?_ _)); refine blk_far ?_ NB320_381.out _; (with_reducible repeat (first | refine blk_drewN ?_ _ | refine blk_drew ?_ | refine blk_alloc ?_ _)); exact BK320.out) hb); replace BK327 := Aside0.mk (blk_below (g := gb327) (o := .cells #[.slice Ao62 t355.length co62, .slice Ao68 t356.length co68] 26 (0, 0)) (by (with_reducible repeat (first | refine blk_drewN ?_ _ | refine blk_drew ?_ | refine blk_alloc ?_ _)); refine blk_far ?_ NB327_381.out _; (with_reducible repeat (first | refine blk_drewN ?_ _ | refine blk_drew ?_ | refine blk_alloc ?_ _)); refine blk_far ?_ NB327_381.out _; (with_reducible repeat (first | refine blk_drewN ?_ _ | refine blk_drew ?_ | refine blk_alloc ?_ _)); exact BK327.out) hb); replace BK335 := Aside0.mk (blk_below (g := gb335) (o := .cells #[.slice Ao72 t328.length co72, .slice Ao79 t331.length co79] 26 (0, 0)) (by (with_reducible repeat (first | refine blk_drewN ?_ _ | refine blk_drew ?_ | refine blk_alloc ?_ _)); refine blk_far ?_ NB335_381.out _; (with_reducible repeat (first | refine blk_drewN ?_ _ | refine blk_drew ?_ | refine blk_alloc ?_ _)); refine blk_far ?_ NB335_381.out _; (with_reducible repeat (first | refine blk_drewN ?_ _ | refine blk_drew ?_ | refine blk_alloc ?_ _)); exact BK335.out) hb); replace BK381 := Aside0.mk (blk_below (g := gb381) (o := .cells #[.slice Ao170 t374.length co170, .slice Ao172 t377.length co172] 26 (0, 0)) (by (with_reducible repeat (first | refine blk_drewN ?_ _ | refine blk_drew ?_ | refine blk_alloc ?_ _)); refine blk_put (cs := #[.slice Ao170 t374.length co170, .slice none 0 0]) ?_ 1 _ rfl; (with_reducible repeat (first | refine blk_drewN ?_ _ | refine blk_drew ?_ | refine blk_alloc ?_ _)); refine blk_put (cs := #[.slice none 0 0, .slice none 0 0]) ?_ 0 _ rfl; (with_reducible repeat (first | refine blk_drewN ?_ _ | refine blk_drew ?_ | refine blk_alloc ?_ _)); exact BK381.out) hb); replace HB := Aside0.mk (below_step (by repeat (first | (with_reducible first | exact HB.out | apply below_alloc | apply pw_below_drewN | apply below_drew1 | refine below_set ?_ GE290.out | refine below_set ?_ GE291.out | refine below_set ?_ GE313.out | refine below_set ?_ GE320.out | refine below_set ?_ GE327.out | refine below_set ?_ GE335.out | refine below_set ?_ GE381.out) | exact HB.out)) hb); (try clear hb); (try clear hb2); (try clear hk); (try clear hi)))
               go_meet
               case rel => exact ⟨_, ((t380 != t312)), (by first | rfl | (simp; done) | (simp [*]; done)), H', ⟨by have := HJ25.out; have := HJ102.out; first | omega | exact Nat.le_refl _⟩, ⟨by (try simp only [hl321000_102]); (try simp only [hl321001_102]); (try simp only [hl328000_102]); (try simp only [hl328001_102]); (with_reducible repeat (first | apply Kd.R_alloc | apply Kd.R_drewN | apply Kd.R_drew)); exact Kd.R_mono HO_314000.out (fun _ hk => ⟨hk.2.2.2.2.2.2.1, ⟨hk.2.2.2.2.2.2.2.1, ⟨hk.2.2.2.2.2.2.2.2.1, ⟨hk.2.2.2.2.2.2.2.2.2.1, ⟨hk.2.2.2.2.2.2.2.2.2.2.1, ⟨hk.2.2.2.2.2.2.2.2.2.2.2.1, ⟨hk.2.2.2.2.2.2.2.2.2.2.2.2, ⟨hk.2.2.2.2.1, hk.2.2.2.2.2.1⟩⟩⟩⟩⟩⟩⟩⟩)⟩, ⟨by (try simp only [hl321000_102]); (try simp only [hl321001_102]); (try simp only [hl328000_102]); (try simp only [hl328001_102]); (with_reducible repeat (first | apply Kd.R_alloc | apply Kd.R_drewN | apply Kd.R_drew)); exact Kd.R_mono HO_314001.out (fun _ hk => ⟨hk.2.2.2.2.2.2.1, ⟨hk.2.2.2.2.2.2.2.1, ⟨hk.2.2.2.2.2.2.2.2.1, ⟨hk.2.2.2.2.2.2.2.2.2.1, ⟨hk.2.2.2.2.2.2.2.2.2.2.1, ⟨hk.2.2.2.2.2.2.2.2.2.2.2.1, ⟨hk.2.2.2.2.2.2.2.2.2.2.2.2, ⟨hk.2.2.2.2.1, hk.2.2.2.2.2.1⟩⟩⟩⟩⟩⟩⟩⟩)⟩, ⟨by (try simp only [hl321000_102]); (try simp only [hl321001_102]); (try simp only [hl328000_102]); (try simp only [hl328001_102]); (with_reducible repeat (first | apply Kd.R_alloc | apply Kd.R_drewN | apply Kd.R_drew)); exact Kd.R_mono HO_321000.out (fun _ hk => ⟨hk.2.2.2.2.2.2.1, ⟨hk.2.2.2.2.2.2.2.1, ⟨hk.2.2.2.2.2.2.2.2.1, ⟨hk.2.2.2.2.2.2.2.2.2.1, ⟨hk.2.2.2.2.2.2.2.2.2.2.1, ⟨hk.2.2.2.2.2.2.2.2.2.2.2.1, ⟨hk.2.2.2.2.2.2.2.2.2.2.2.2, ⟨hk.2.2.2.2.1, hk.2.2.2.2.2.1⟩⟩⟩⟩⟩⟩⟩⟩)⟩, ⟨by (try simp only [hl321000_102]); (try simp only [hl321001_102]); (try simp only [hl328000_102]); (try simp only [hl328001_102]); (with_reducible repeat (first | apply Kd.R_alloc | apply Kd.R_drewN | apply Kd.R_drew)); exact Kd.R_mono HO_321001.out (fun _ hk => ⟨hk.2.2.2.2.2.2.1, ⟨hk.2.2.2.2.2.2.2.1, ⟨hk.2.2.2.2.2.2.2.2.1, ⟨hk.2.2.2.2.2.2.2.2.2.1, ⟨hk.2.2.2.2.2.2.2.2.2.2.1, ⟨hk.2.2.2.2.2.2.2.2.2.2.2.1, ⟨hk.2.2.2.2.2.2.2.2.2.2.2.2, ⟨hk.2.2.2.2.1, hk.2.2.2.2.2.1⟩⟩⟩⟩⟩⟩⟩⟩)⟩, ⟨by (try simp only [hl321000_102]); (try simp only [hl321001_102]); (try simp only [hl328000_102]); (try simp only [hl328001_102]); (with_reducible repeat (first | apply Kd.R_alloc | apply Kd.R_drewN | apply Kd.R_drew)); exact Kd.R_mono HO_328000.out (fun _ hk => ⟨hk.2.2.2.2.2.2.1, ⟨hk.2.2.2.2.2.2.2.1, ⟨hk.2.2.2.2.2.2.2.2.1, ⟨hk.2.2.2.2.2.2.2.2.2.1, ⟨hk.2.2.2.2.2.2.2.2.2.2.1, ⟨hk.2.2.2.2.2.2.2.2.2.2.2.1, ⟨hk.2.2.2.2.2.2.2.2.2.2.2.2, ⟨hk.2.2.2.2.1, hk.2.2.2.2.2.1⟩⟩⟩⟩⟩⟩⟩⟩)⟩, ⟨by (try simp only [hl321000_102]); (try simp only [hl321001_102]); (try simp only [hl328000_102]); (try simp only [hl328001_102]); (with_reducible repeat (first | apply Kd.R_alloc | apply Kd.R_drewN | apply Kd.R_drew)); exact Kd.R_mono HO_328001.out (fun _ hk => ⟨hk.2.2.2.2.2.2.1, ⟨hk.2.2.2.2.2.2.2.1, ⟨hk.2.2.2.2.2.2.2.2.1, ⟨hk.2.2.2.2.2.2.2.2.2.1, ⟨hk.2.2.2.2.2.2.2.2.2.2.1, ⟨hk.2.2.2.2.2.2.2.2.2.2.2.1, ⟨hk.2.2.2.2.2.2.2.2.2.2.2.2, ⟨hk.2.2.2.2.1, hk.2.2.2.2.2.1⟩⟩⟩⟩⟩⟩⟩⟩)⟩, ⟨by (try simp only [hl321000_102]); (try simp only [hl321001_102]); (try simp only [hl328000_102]); (try simp only [hl328001_102]); (with_reducible repeat (first | apply Kd.R_alloc | apply Kd.R_drewN | apply Kd.R_drew)); exact Kd.R_mono HO_336000.out (fun _ hk => ⟨hk.2.2.2.2.2.2.1, ⟨hk.2.2.2.2.2.2.2.1, ⟨hk.2.2.2.2.2.2.2.2.1, ⟨hk.2.2.2.2.2.2.2.2.2.1, ⟨hk.2.2.2.2.2.2.2.2.2.2.1, ⟨hk.2.2.2.2.2.2.2.2.2.2.2.1, ⟨hk.2.2.2.2.2.2.2.2.2.2.2.2, ⟨hk.2.2.2.2.1, hk.2.2.2.2.2.1⟩⟩⟩⟩⟩⟩⟩⟩)⟩, ⟨by (try simp only [hl321000_102]); (try simp only [hl321001_102]); (try simp only [hl328000_102]); (try simp only [hl328001_102]); (with_reducible repeat (first | apply Kd.R_alloc | apply Kd.R_drewN | apply Kd.R_drew)); exact Kd.R_mono HO_336001.out (fun _ hk => ⟨hk.2.2.2.2.2.2.1, ⟨hk.2.2.2.2.2.2.2.1, ⟨hk.2.2.2.2.2.2.2.2.1, ⟨hk.2.2.2.2.2.2.2.2.2.1, ⟨hk.2.2.2.2.2.2.2.2.2.2.1, ⟨hk.2.2.2.2.2.2.2.2.2.2.2.1, ⟨hk.2.2.2.2.2.2.2.2.2.2.2.2, ⟨hk.2.2.2.2.1, hk.2.2.2.2.2.1⟩⟩⟩⟩⟩⟩⟩⟩)⟩, ⟨by (try simp only [hl321000_102]); (try simp only [hl321001_102]); (try simp only [hl328000_102]); (try simp only [hl328001_102]); (with_reducible repeat (first | apply Kd.R_alloc | apply Kd.R_drewN | apply Kd.R_drew)); exact Kd.R_mono HO376.out (fun _ hk => ⟨hk.2.2.2.2.2.1, ⟨hk.2.2.2.2.2.2.1, ⟨hk.2.2.2.2.2.2.2.1, ⟨hk.2.2.2.2.2.2.2.2.1, ⟨hk.2.2.2.2.2.2.2.2.2.1, ⟨hk.2.2.2.2.2.2.2.2.2.2.1, ⟨hk.2.2.2.2.2.2.2.2.2.2.2.1, ⟨hk.2.2.2.2.2.2.2.2.2.2.2.2, hk.2.2.2.2.1⟩⟩⟩⟩⟩⟩⟩⟩)⟩, ⟨by (try simp only [hl321000_102]); (try simp only [hl321001_102]); (try simp only [hl328000_102]); (try simp only [hl328001_102]); (with_reducible repeat (first | apply Kd.R_alloc | apply Kd.R_drewN | apply Kd.R_drew)); exact Kd.R_mono HO379.out (fun _ hk => ⟨hk.2.2.2.2.2.1, ⟨hk.2.2.2.2.2.2.1, ⟨hk.2.2.2.2.2.2.2.1, ⟨hk.2.2.2.2.2.2.2.2.1, ⟨hk.2.2.2.2.2.2.2.2.2.1, ⟨hk.2.2.2.2.2.2.2.2.2.2.1, ⟨hk.2.2.2.2.2.2.2.2.2.2.2.1, ⟨hk.2.2.2.2.2.2.2.2.2.2.2.2, hk.2.2.2.2.1⟩⟩⟩⟩⟩⟩⟩⟩)⟩, ⟨by (try simp only [hl321000_102]); (try simp only [hl321001_102]); (try simp only [hl328000_102]); (try simp only [hl328001_102]); (with_reducible repeat (first | refine blk_drewN ?_ _ | refine blk_drew ?_ | refine blk_alloc ?_ _)); exact BK290.out⟩, ⟨by (try simp only [hl321000_102]); (try simp only [hl321001_102]); (try simp only [hl328000_102]); (try simp only [hl328001_102]); (with_reducible repeat (first | refine blk_drewN ?_ _ | refine blk_drew ?_ | refine blk_alloc ?_ _)); exact BK291.out⟩, ⟨by (try simp only [hl321000_102]); (try simp only [hl321001_102]); (try simp only [hl328000_102]); (try simp only [hl328001_102]); (with_reducible repeat (first | refine blk_drewN ?_ _ | refine blk_drew ?_ | refine blk_alloc ?_ _)); exact BK313.out⟩, ⟨by (try simp only [hl321000_102]); (try simp only [hl321001_102]); (try simp only [hl328000_102]); (try simp only [hl328001_102]); (with_reducible repeat (first | refine blk_drewN ?_ _ | refine blk_drew ?_ | refine blk_alloc ?_ _)); exact BK320.out⟩, ⟨by (try simp only [hl321000_102]); (try simp only [hl321001_102]); (try simp only [hl328000_102]); (try simp only [hl328001_102]); (with_reducible repeat (first | refine blk_drewN ?_ _ | refine blk_drew ?_ | refine blk_alloc ?_ _)); exact BK327.out⟩, ⟨by (try simp only [hl321000_102]); (try simp only [hl321001_102]); (try simp only [hl328000_102]); (try simp only [hl328001_102]); (with_reducible repeat (first | refine blk_drewN ?_ _ | refine blk_drew ?_ | refine blk_alloc ?_ _)); exact BK335.out⟩, ⟨by (try simp only [hl321000_102]); (try simp only [hl321001_102]); (try simp only [hl328000_102]); (try simp only [hl328001_102]); (with_reducible repeat (first | refine blk_drewN ?_ _ | refine blk_drew ?_ | refine blk_alloc ?_ _)); exact BK381.out⟩, ⟨by repeat (first | (with_reducible first | exact HB.out | apply below_alloc | apply pw_below_drewN | apply below_drew1 | refine below_set ?_ GE290.out | refine below_set ?_ GE291.out | refine below_set ?_ GE313.out | refine below_set ?_ GE320.out | refine below_set ?_ GE327.out | refine below_set ?_ GE335.out | refine below_set ?_ GE381.out) | exact HB.out)⟩⟩
              ·
               replace c175 := Bool.eq_false_iff.mpr c175
               subst c175
               have H1 : (laws_FnExactEachTwo.j2 kj102 t358 true t359 t360) = some r := by rw [if_neg (show ¬ (false = true) by decide)] at H; exact H
               clear H
               have H := H1
               clear H1
               have hz_ : ∀ kz, laws_FnExactEachTwo.j2 kz t358 true t359 t360 = some r → r = false := by intro kz hz; cases kz with | zero => exact absurd hz (by simp [laws_FnExactEachTwo.j2]) | succ kz => simp only [laws_FnExactEachTwo.j2] at hz; first | (rw [if_pos rfl] at hz; exact (Option.some.inj hz).symm) | (simp at hz; exact hz.symm) | (simp at hz; exact hz)
               exact absurd (HT.out.symm.trans (hz_ _ H)) (by decide)
             case rest =>
              clear HC150
              try clear c1
              try clear c2
              try clear p2
              try clear c7
              try clear c8
              try clear c9
              try clear c17
              try clear c18
              try clear c175
              try clear c176
              try clear c177
              try clear c178
              try clear c179
              try clear c180
              try clear c181
              try clear c183
              try clear c184
              try clear c185
              try clear c186
              try clear c187
              try clear hcz182_0
              try clear hcz182_1
              try clear hcz188_0
              try clear hcz188_1
              try clear hfz182_0
              try clear hfz182_1
              try clear hfz188_0
              try clear hfz188_1
              obtain ⟨kq, x115_149, rfl, HA, HJ149, HO_314000, HO_314001, HO_321000, HO_321001, HO_328000, HO_328001, HO_336000, HO_336001, HO_382000, HO_382001, BK290, BK291, BK313, BK320, BK327, BK335, BK381, HB⟩ := hcut
              have hl336000_149 := (Kd.R_reads' HO_336000.out).1
              rw [hl336000_149] at HO_336000
              (try simp only [hl336000_149])
              (try simp only [hl336000_149] at BK290)
              (try simp only [hl336000_149] at BK291)
              (try simp only [hl336000_149] at BK313)
              (try simp only [hl336000_149] at BK320)
              (try simp only [hl336000_149] at BK327)
              (try simp only [hl336000_149] at BK335)
              (try simp only [hl336000_149] at BK381)
              (try simp only [hl336000_149] at HO_314000)
              (try simp only [hl336000_149] at HO_314001)
              (try simp only [hl336000_149] at HO_321000)
              (try simp only [hl336000_149] at HO_321001)
              (try simp only [hl336000_149] at HO_328000)
              (try simp only [hl336000_149] at HO_328001)
              (try simp only [hl336000_149] at HO_336001)
              (try simp only [hl336000_149] at HO_382000)
              (try simp only [hl336000_149] at HO_382001)
              have hl336001_149 := (Kd.R_reads' HO_336001.out).1
              rw [hl336001_149] at HO_336001
              (try simp only [hl336001_149])
              (try simp only [hl336001_149] at BK290)
              (try simp only [hl336001_149] at BK291)
              (try simp only [hl336001_149] at BK313)
              (try simp only [hl336001_149] at BK320)
              (try simp only [hl336001_149] at BK327)
              (try simp only [hl336001_149] at BK335)
              (try simp only [hl336001_149] at BK381)
              (try simp only [hl336001_149] at HO_314000)
              (try simp only [hl336001_149] at HO_314001)
              (try simp only [hl336001_149] at HO_321000)
              (try simp only [hl336001_149] at HO_321001)
              (try simp only [hl336001_149] at HO_328000)
              (try simp only [hl336001_149] at HO_328001)
              (try simp only [hl336001_149] at HO_336000)
              (try simp only [hl336001_149] at HO_382000)
              (try simp only [hl336001_149] at HO_382001)
              cases kq with
              | zero => exact absurd HA.out (by simp [laws_FnExactEachTwo.j2])
              | succ kj149 =>
               have H := HA.out
               clear HA
               simp only [laws_FnExactEachTwo.j2] at H
               by_cases c190 : x115_149 = true
               ·
                subst c190
                have H1 : (some false) = some r := by rw [if_pos rfl] at H; exact H
                clear H
                have H := H1
                clear H1
                obtain rfl := Option.some.inj H
                exact absurd HT.out (by decide)
               ·
                replace c190 := Bool.eq_false_iff.mpr c190
                subst c190
                have H1 : ((laws_heldArray.f kj149 t359 t360 1).bind fun t383 => (if t383 < 0 then (some false) else (if t383 = t358 then (some true) else (some false)))) = some r := by rw [if_neg (show ¬ (false = true) by decide)] at H; exact H
                clear H
                have H := H1
                clear H1
                replace H := Option.bind_eq_some_iff.mp H
                obtain ⟨t383, A1910, H⟩ := H
                replace H : (if t383 < 0 then (some false) else (if t383 = t358 then (some true) else (some false))) = some r := H
                have A191 := Aside0.mk A1910
                clear A1910
                by_cases c192 : t383 < 0
                ·
                 rw [if_pos c192] at H
                 have c192b0 : decide (t383 < 0) = true := decide_eq_true c192
                 clear c192
                 obtain rfl := Option.some.inj H
                 exact absurd HT.out (by decide)
                ·
                 rw [if_neg c192] at H
                 have c192b0 : decide (t383 < 0) = false := decide_eq_false c192
                 clear c192
                 by_cases c193 : t383 = t358
                 ·
                  rw [if_pos c193] at H
                  have c193b0 : (t383 == t358) = true := beq_iff_eq.mpr c193
                  have c193b1 : (t383 != t358) = false := bne_eq_false_iff_eq.mpr c193
                  clear c193
                  obtain rfl := Option.some.inj H
                  have hnb194 := NB335_290.out
                  have hnc194 := NB290_335.out
                  have hnb195 := NB335_291.out
                  have hnc195 := NB291_335.out
                  have hnb196 := NB335_313.out
                  have hnc196 := NB313_335.out
                  have hnb197 := NB335_320.out
                  have hnc197 := NB320_335.out
                  have hnb198 := NB335_327.out
                  have hnc198 := NB327_335.out
                  have hnb199 := NB335_381.out
                  have hnc199 := NB381_335.out
                  have hcz200_0 : wc.cell? ⟨gb335, 0, none⟩ = some (.slice Ao72 t359.length co72) := (blk_cell BK335.out 0).trans rfl
                  have hcz200_1 : wc.cell? ⟨gb335, 1, none⟩ = some (.slice Ao79 t360.length co79) := (blk_cell BK335.out 1).trans rfl
                  have hfz200_0 := blk_frozen BK335.out 0
                  have hfz200_1 := blk_frozen BK335.out 1
                  go_wp2_with (first | ((with_reducible refine gate_callee (f := 11) rfl ?_); refine goesL_ (some 118) rfl rfl Try.func11 (by kernel_rfl) rfl #[.agg #[.slice Ao72 t359.length co72, .slice Ao79 t360.length co79], .int .i64 1] rfl (by (try simp only [List.map_toArray, List.map_cons, List.map_nil]); first | done | rfl | (simp only [List.length_drop, List.length_take]; rfl)) ?_; (with_reducible refine (laws_heldArray.calls kj149 _ _ t359 _ _ t360 1 t383 _ ?side1 ?side2 ?side3 ?side4 A191.out).mono ?_); (case side1 => exact cU (Kd.R_reads' HO_336000.out).2.2); (case side2 => exact (Kd.R_reads' HO_336000.out).2.1); (case side3 => exact cU (Kd.R_reads' HO_336001.out).2.2); (case side4 => exact (Kd.R_reads' HO_336001.out).2.1); rintro e w201 ⟨rfl, hb⟩; refine ⟨_, rfl, ?_⟩; replace HO_314000 := Aside0.mk (Kd.R_below (RU HO_314000.out) hb); replace HO_314001 := Aside0.mk (Kd.R_below (RU HO_314001.out) hb); replace HO_321000 := Aside0.mk (Kd.R_below (RU HO_321000.out) hb); replace HO_321001 := Aside0.mk (Kd.R_below (RU HO_321001.out) hb); replace HO_328000 := Aside0.mk (Kd.R_below (RU HO_328000.out) hb); replace HO_328001 := Aside0.mk (Kd.R_below (RU HO_328001.out) hb); replace HO_336000 := Aside0.mk (Kd.R_below (RU HO_336000.out) hb); replace HO_336001 := Aside0.mk (Kd.R_below (RU HO_336001.out) hb); replace HO_382000 := Aside0.mk (Kd.R_below (RU HO_382000.out) hb); replace HO_382001 := Aside0.mk (Kd.R_below (RU HO_382001.out) hb); replace BK290 := Aside0.mk (blk_below (g := gb290) (o := .cells #[.slice A1_0 l1_0.length c1_0, .slice A1_1 l1_1.length c1_1] 24 (0, 0)) (kU BK290.out) hb); replace BK291 := Aside0.mk (blk_below (g := gb291) (o := .cells #[.slice A2_0 l2_0.length c2_0, .slice A2_1 l2_1.length c2_1] 24 (0, 0)) (kU BK291.out) hb); replace BK313 := Aside0.mk (blk_below (g := gb313) (o := .cells #[.slice Ao44 t306.length co44, .slice Ao46 t309.length co46] 26 (0, 0)) (kU BK313.out) hb); replace BK320 := Aside0.mk (blk_below (g := gb320) (o := .cells #[.slice Ao52 t352.length co52, .slice Ao57 t353.length co57] 26 (0, 0)) (kU BK320.out) hb); replace BK327 := Aside0.mk (blk_below (g := gb327) (o := .cells #[.slice Ao62 t355.length co62, .slice Ao68 t356.length co68] 26 (0, 0)) (kU BK327.out) hb); replace BK335 := Aside0.mk (blk_below (g := gb335) (o := .cells #[.slice Ao72 t359.length co72, .slice Ao79 t360.length co79] 26 (0, 0)) (kU BK335.out) hb); replace BK381 := Aside0.mk (blk_below (g := gb381) (o := .cells #[.slice Ao170 t374.length co170, .slice Ao172 t377.length co172] 26 (0, 0)) (kU BK381.out) hb); replace HB := Aside0.mk (below_step (by repeat (first | (with_reducible first | exact HB.out | apply below_alloc | apply pw_below_drewN | apply below_drew1 | refine below_set ?_ GE290.out | refine below_set ?_ GE291.out | refine below_set ?_ GE313.out | refine below_set ?_ GE320.out | refine below_set ?_ GE327.out | refine below_set ?_ GE335.out | refine below_set ?_ GE381.out) | exact HB.out)) hb); (try clear hb); (try clear hb2); (try clear hk); (try clear hi)))
                  go_ret
                  exact ⟨by first | rfl | (simp [errW_none, errW_some] <;> rfl) | (simp [*, errW_none, errW_some] <;> rfl), by repeat (first | (with_reducible first | exact HB.out | apply below_alloc | apply pw_below_drewN | apply below_drew1 | refine below_set ?_ GE290.out | refine below_set ?_ GE291.out | refine below_set ?_ GE313.out | refine below_set ?_ GE320.out | refine below_set ?_ GE327.out | refine below_set ?_ GE335.out | refine below_set ?_ GE381.out) | exact HB.out)⟩
                 ·
                  rw [if_neg c193] at H
                  have c193b0 : (t383 == t358) = false := beq_eq_false_iff_ne.mpr c193
                  have c193b1 : (t383 != t358) = true := bne_iff_ne.mpr c193
                  obtain rfl := Option.some.inj H
                  exact absurd HT.out (by decide)
theorem laws_FnExactEachTwo.calls (k : Nat) (a0 : Int) (A1_0 : Option Addr) (c1_0 : Nat) (l1_0 : List Int) (A1_1 : Option Addr) (c1_1 : Nat) (l1_1 : List Int) (A2_0 : Option Addr) (c2_0 : Nat) (l2_0 : List Int) (A2_1 : Option Addr) (c2_1 : Nat) (l2_1 : List Int) (r : Bool) (w : World) (hr1_0 : Kd.C (Kd.int .i64) w A1_0 l1_0.length l1_0) (hc1_0 : l1_0.length ≤ c1_0) (hr1_1 : Kd.C (Kd.int .i64) w A1_1 l1_1.length l1_1) (hc1_1 : l1_1.length ≤ c1_1) (hr2_0 : Kd.C (Kd.int .i64) w A2_0 l2_0.length l2_0) (hc2_0 : l2_0.length ≤ c2_0) (hr2_1 : Kd.C (Kd.int .i64) w A2_1 l2_1.length l2_1) (hc2_1 : l2_1.length ≤ c2_1) (h : laws_FnExactEachTwo.f k a0 l1_0 l1_1 l2_0 l2_1 = some r) (hT : r = true) :
    Calls Try.prog 3 #[.int .i64 a0, .agg #[.slice A1_0 l1_0.length c1_0, .slice A1_1 l1_1.length c1_1], .agg #[.slice A2_0 l2_0.length c2_0, .slice A2_1 l2_1.length c2_1]] w fun e w' => e = .returned (.bool r) ∧ Below w.heap.size w w' := by
  exact (laws_FnExactEachTwo.part1.2 fun _ => laws_FnExactEachTwo.part2) k a0 A1_0 c1_0 l1_0 A1_1 c1_1 l1_1 A2_0 c2_0 l2_0 A2_1 c2_1 l2_1 r w hr1_0 hc1_0 hr1_1 hc1_1 hr2_0 hc2_0 hr2_1 hc2_1 h hT
end Go.Proofs.Ytjkbndfaemjjiaa.PFnExactEachTwo
