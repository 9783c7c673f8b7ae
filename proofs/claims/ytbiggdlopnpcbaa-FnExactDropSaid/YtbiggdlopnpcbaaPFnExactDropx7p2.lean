/- A law's walk, written in parts: this is part 2. It has no condition of its own. -/
import Derived.Test.YtbiggdlopnpcbaaPFnExactDropx7
namespace Go.Proofs.Ytbiggdlopnpcbaa.PFnExactDrop
open Go.RowKit Go.Proofs.YtbiggdlopnpcbaaW.PrintWords Go.Proofs.YtbiggdlopnpcbaaW.PrintLast Go.Proofs.YtbiggdlopnpcbaaW.PrintMore Go.Proofs.YtbiggdlopnpcbaaQ
attribute [local go_sem] max2_int min2_int max_two min_two max_three min_three max_four min_four   -- for this text's walks alone
set_option linter.unusedVariables false
set_option linter.unusedSimpArgs false
set_option maxHeartbeats 8000000 in
set_option maxRecDepth 100000 in
theorem laws_FnExactDrop.part2 : laws_FnExactDrop.part1.1 := by
             intro k A0_0 c0_0 l0_0 A0_1 c0_1 l0_1 A1_0 c1_0 l1_0 A1_1 c1_1 l1_1 r w HT hu24 hu26 HR0_0 HC0_0 HR0_1 HC0_1 HR1_0 HC1_0 HR1_1 HC1_1 t358 A3 c4b0 t359 A10 c11b0 t360 t363 A19 t366 t369 A20 t372 t375 t378 A21 t380 t383 A22 t387 t390 A23 t394 t397 t400 A24 _ gb356 w26 GW356 GE356 gb357 w27 GW357 GE357 NB356_357 NB357_356 hnb28 hnc28 hcz29_0 hcz29_1 hfz29_0 hfz29_1 w30 hcz31_0 hcz31_1 hfz31_0 hfz31_1 w32 _ _ w33 _ v361 v364 v367 v370 gb379 w42 hS_ GW379 GE379 NB356_379 NB379_356 NB357_379 NB379_357 _ Ao43 co43 Ao45 co45 hs44 hfs44 hns44_0 hns44_1 hms44_0 hms44_1 hs46 hfs46 hns46_0 hns46_1 hms46_0 hms46_1 _ hnb47 hnc47 w49 gb386 w50 GW386 GE386 NB356_386 NB386_356 NB357_386 NB386_357 NB379_386 NB386_379 Ao51 co51 hnb52 hnc52 hnb53 hnc53 hnb54 hnc54 Ao56 co56 hnb57 hnc57 w59 gb393 w60 GW393 GE393 NB356_393 NB393_356 NB357_393 NB393_357 NB379_393 NB393_379 NB386_393 NB393_386 Ao61 co61 hnb62 hnc62 hnb63 hnc63 hnb64 hnc64 hnb65 hnc65 Ao67 co67 w69 gb401 w70 _ GW401 GE401 _ NB356_401 NB401_356 _ NB357_401 NB401_357 _ NB379_401 NB401_379 _ NB386_401 NB401_386 _ NB393_401 NB401_393 _ Ao71 co71 hnb72 hnc72 hnb73 hnc73 hnb74 hnc74 hnb75 hnc75 hnb76 hnc76 Ao78 co78 HO362 HO365 HO368 HO371 HO374 HO377 HO382 HO385 HO389 HO392 HO396 HO399 _ _ _ _ _ _ _ _ _ _ _ _ _ _ _ _ _ _ _ _ _ _ _ _ _ _ _ _ _ _ _ _ _ _ _ _ _ _ _ _ _ _ _ _ _ _ _ _ _ _ _ _ _ _ _ _ _ _ _ _ _ _ _ _ _ u82 _ _ _ _ _ _ _ _ _ _ _ _ _ _ _ _ _ _ _ _ _ _ _ _ _ _ _ _ _ _ _ _ _ _ _ _ kj24 HJ24 t403 t406 A94 A95 t410 t413 A97 A98 t417 t418 t419 A100 t420 t421 t422 A101 w103 _ w104 Ao105 co105 Ao106 co106 _ w107 _ w108 _ w109 Ao110 co110 Ao111 co111 _ w112 _ hnb113 hnc113 hnb114 hnc114 hnb115 hnc115 hnb116 hnc116 hnb117 hnc117 w119 hnb120 hnc120 hnb121 hnc121 hnb122 hnc122 hnb123 hnc123 w125 _ _ _ _ _ _ _ _ _ _ _ _ _ _ HO405 HO408 HO412 HO415 _ wc u17 u18 u19 u20 u21 u22 u23 u24 u25 u26 u27 u28 u29 u30 u31 u32 u33 u34 u35 u36 u37 u38 u39 u40 u41 u42 u43 u44 u45 u46 u47 u48 u49 u50 u51 u52 u53 u54 u55 u56 u57 u58 u59 u60 u61 u62 u63 u64 u65 u66 u67 u68 u69 u70 u71 u72 u73 u74 u75 u76 u77 u78 u79 u80 u81 u83 u84 u85 u86 u87 u88 u89 u90 u91 u92 u93 u94 u95 u96 u97 u98 u99 u100 u101 u102 u103 u104 u105 u106 u107 u108 u109 u110 u111 u112 u113 u114 u115 u116 u117 u118 hl387000_101 hl387001_101 hl394000_101 hl394001_101 kj101 HJ101 t424 t425 t426 A142 t427 A143 c144b0 c145b0 c145b1 t428 t431 A146 t434 t437 A147 t440 t443 t446 A148 HC149 hnb150 hnc150 hnb151 hnc151 hnb152 hnc152 hnb153 hnc153 hnb154 hnc154 hcz155_0 hcz155_1 hfz155_0 hfz155_1 w156 hcz157_0 hcz157_1 hfz157_0 hfz157_1 w158 _ _ HT_ HW_ w159 HO_380000 HO_380001 HO_387000 HO_387001 HO_394000 HO_394001 HO_402000 HO_402001 BK356 BK357 BK379 BK386 BK393 BK401 HB hHeld
             refine join_ (σ := Value × Value × Value × Value × Value × Value × Nat) 2 #[true, true, true, true, true, true, true, true, true, false, false] (fun s_ => [(96, .agg #[s_.1, s_.2.1]), (98, .agg #[s_.2.2.1, s_.2.2.2.1]), (99, .tuple #[.agg #[s_.2.2.2.2.1, s_.2.2.2.2.2.1], .int .i64 t446]), (15, .pointer (some ⟨s_.2.2.2.2.2.2, 0, none⟩)), (94, .tuple #[.agg #[s_.2.2.2.2.1, s_.2.2.2.2.2.1], .int .i64 t446]), (100, .agg #[s_.2.2.2.2.1, s_.2.2.2.2.2.1]), (101, .int .i64 t446)]) (fun s_ w' => (w'.cell? ⟨gb356, 0, none⟩ = some (.slice A0_0 l0_0.length c0_0) ∧ w'.cell? ⟨gb356, 1, none⟩ = some (.slice A0_1 l0_1.length c0_1) ∧ w'.cell? ⟨gb357, 0, none⟩ = some (.slice A1_0 l1_0.length c1_0) ∧ w'.cell? ⟨gb357, 1, none⟩ = some (.slice A1_1 l1_1.length c1_1)) ∧ (Kd.R (Kd.int .i64) 3 w' w.heap.size (fun k_ => some k_ ≠ (s_.2.1 : Value).ownBlock ∧ some k_ ≠ (s_.2.2.1 : Value).ownBlock ∧ some k_ ≠ (s_.2.2.2.1 : Value).ownBlock ∧ some k_ ≠ (s_.2.2.2.2.1 : Value).ownBlock ∧ some k_ ≠ (s_.2.2.2.2.2.1 : Value).ownBlock ∧ some k_ ≠ (.slice Ao43 t372.length co43 : Value).ownBlock ∧ some k_ ≠ (.slice Ao45 t375.length co45 : Value).ownBlock ∧ some k_ ≠ (.slice Ao51 t418.length co51 : Value).ownBlock ∧ some k_ ≠ (.slice Ao56 t419.length co56 : Value).ownBlock ∧ some k_ ≠ (.slice Ao61 t421.length co61 : Value).ownBlock ∧ some k_ ≠ (.slice Ao67 t422.length co67 : Value).ownBlock ∧ some k_ ≠ (.slice Ao71 t394.length co71 : Value).ownBlock ∧ some k_ ≠ (.slice Ao78 t397.length co78 : Value).ownBlock) s_.1 t428) ∧ (Kd.R (Kd.int .i64) 3 w' w.heap.size (fun k_ => some k_ ≠ (s_.1 : Value).ownBlock ∧ some k_ ≠ (s_.2.2.1 : Value).ownBlock ∧ some k_ ≠ (s_.2.2.2.1 : Value).ownBlock ∧ some k_ ≠ (s_.2.2.2.2.1 : Value).ownBlock ∧ some k_ ≠ (s_.2.2.2.2.2.1 : Value).ownBlock ∧ some k_ ≠ (.slice Ao43 t372.length co43 : Value).ownBlock ∧ some k_ ≠ (.slice Ao45 t375.length co45 : Value).ownBlock ∧ some k_ ≠ (.slice Ao51 t418.length co51 : Value).ownBlock ∧ some k_ ≠ (.slice Ao56 t419.length co56 : Value).ownBlock ∧ some k_ ≠ (.slice Ao61 t421.length co61 : Value).ownBlock ∧ some k_ ≠ (.slice Ao67 t422.length co67 : Value).ownBlock ∧ some k_ ≠ (.slice Ao71 t394.length co71 : Value).ownBlock ∧ some k_ ≠ (.slice Ao78 t397.length co78 : Value).ownBlock) s_.2.1 t431) ∧ (Kd.R (Kd.int .i64) 3 w' w.heap.size (fun k_ => some k_ ≠ (s_.1 : Value).ownBlock ∧ some k_ ≠ (s_.2.1 : Value).ownBlock ∧ some k_ ≠ (s_.2.2.2.1 : Value).ownBlock ∧ some k_ ≠ (s_.2.2.2.2.1 : Value).ownBlock ∧ some k_ ≠ (s_.2.2.2.2.2.1 : Value).ownBlock ∧ some k_ ≠ (.slice Ao43 t372.length co43 : Value).ownBlock ∧ some k_ ≠ (.slice Ao45 t375.length co45 : Value).ownBlock ∧ some k_ ≠ (.slice Ao51 t418.length co51 : Value).ownBlock ∧ some k_ ≠ (.slice Ao56 t419.length co56 : Value).ownBlock ∧ some k_ ≠ (.slice Ao61 t421.length co61 : Value).ownBlock ∧ some k_ ≠ (.slice Ao67 t422.length co67 : Value).ownBlock ∧ some k_ ≠ (.slice Ao71 t394.length co71 : Value).ownBlock ∧ some k_ ≠ (.slice Ao78 t397.length co78 : Value).ownBlock) s_.2.2.1 t434) ∧ (Kd.R (Kd.int .i64) 3 w' w.heap.size (fun k_ => some k_ ≠ (s_.1 : Value).ownBlock ∧ some k_ ≠ (s_.2.1 : Value).ownBlock ∧ some k_ ≠ (s_.2.2.1 : Value).ownBlock ∧ some k_ ≠ (s_.2.2.2.2.1 : Value).ownBlock ∧ some k_ ≠ (s_.2.2.2.2.2.1 : Value).ownBlock ∧ some k_ ≠ (.slice Ao43 t372.length co43 : Value).ownBlock ∧ some k_ ≠ (.slice Ao45 t375.length co45 : Value).ownBlock ∧ some k_ ≠ (.slice Ao51 t418.length co51 : Value).ownBlock ∧ some k_ ≠ (.slice Ao56 t419.length co56 : Value).ownBlock ∧ some k_ ≠ (.slice Ao61 t421.length co61 : Value).ownBlock ∧ some k_ ≠ (.slice Ao67 t422.length co67 : Value).ownBlock ∧ some k_ ≠ (.slice Ao71 t394.length co71 : Value).ownBlock ∧ some k_ ≠ (.slice Ao78 t397.length co78 : Value).ownBlock) s_.2.2.2.1 t437) ∧ (Kd.R (Kd.int .i64) 3 w' w.heap.size (fun k_ => some k_ ≠ (s_.1 : Value).ownBlock ∧ some k_ ≠ (s_.2.1 : Value).ownBlock ∧ some k_ ≠ (s_.2.2.1 : Value).ownBlock ∧ some k_ ≠ (s_.2.2.2.1 : Value).ownBlock ∧ some k_ ≠ (s_.2.2.2.2.2.1 : Value).ownBlock ∧ some k_ ≠ (.slice Ao43 t372.length co43 : Value).ownBlock ∧ some k_ ≠ (.slice Ao45 t375.length co45 : Value).ownBlock ∧ some k_ ≠ (.slice Ao51 t418.length co51 : Value).ownBlock ∧ some k_ ≠ (.slice Ao56 t419.length co56 : Value).ownBlock ∧ some k_ ≠ (.slice Ao61 t421.length co61 : Value).ownBlock ∧ some k_ ≠ (.slice Ao67 t422.length co67 : Value).ownBlock ∧ some k_ ≠ (.slice Ao71 t394.length co71 : Value).ownBlock ∧ some k_ ≠ (.slice Ao78 t397.length co78 : Value).ownBlock) s_.2.2.2.2.1 t440) ∧ (Kd.R (Kd.int .i64) 3 w' w.heap.size (fun k_ => some k_ ≠ (s_.1 : Value).ownBlock ∧ some k_ ≠ (s_.2.1 : Value).ownBlock ∧ some k_ ≠ (s_.2.2.1 : Value).ownBlock ∧ some k_ ≠ (s_.2.2.2.1 : Value).ownBlock ∧ some k_ ≠ (s_.2.2.2.2.1 : Value).ownBlock ∧ some k_ ≠ (.slice Ao43 t372.length co43 : Value).ownBlock ∧ some k_ ≠ (.slice Ao45 t375.length co45 : Value).ownBlock ∧ some k_ ≠ (.slice Ao51 t418.length co51 : Value).ownBlock ∧ some k_ ≠ (.slice Ao56 t419.length co56 : Value).ownBlock ∧ some k_ ≠ (.slice Ao61 t421.length co61 : Value).ownBlock ∧ some k_ ≠ (.slice Ao67 t422.length co67 : Value).ownBlock ∧ some k_ ≠ (.slice Ao71 t394.length co71 : Value).ownBlock ∧ some k_ ≠ (.slice Ao78 t397.length co78 : Value).ownBlock) s_.2.2.2.2.2.1 t443) ∧ (Kd.R (Kd.int .i64) 3 w' w.heap.size (fun k_ => some k_ ≠ (s_.1 : Value).ownBlock ∧ some k_ ≠ (s_.2.1 : Value).ownBlock ∧ some k_ ≠ (s_.2.2.1 : Value).ownBlock ∧ some k_ ≠ (s_.2.2.2.1 : Value).ownBlock ∧ some k_ ≠ (s_.2.2.2.2.1 : Value).ownBlock ∧ some k_ ≠ (s_.2.2.2.2.2.1 : Value).ownBlock ∧ some k_ ≠ (.slice Ao45 t375.length co45 : Value).ownBlock ∧ some k_ ≠ (.slice Ao51 t418.length co51 : Value).ownBlock ∧ some k_ ≠ (.slice Ao56 t419.length co56 : Value).ownBlock ∧ some k_ ≠ (.slice Ao61 t421.length co61 : Value).ownBlock ∧ some k_ ≠ (.slice Ao67 t422.length co67 : Value).ownBlock ∧ some k_ ≠ (.slice Ao71 t394.length co71 : Value).ownBlock ∧ some k_ ≠ (.slice Ao78 t397.length co78 : Value).ownBlock) (.slice Ao43 t372.length co43) t372) ∧ (Kd.R (Kd.int .i64) 3 w' w.heap.size (fun k_ => some k_ ≠ (s_.1 : Value).ownBlock ∧ some k_ ≠ (s_.2.1 : Value).ownBlock ∧ some k_ ≠ (s_.2.2.1 : Value).ownBlock ∧ some k_ ≠ (s_.2.2.2.1 : Value).ownBlock ∧ some k_ ≠ (s_.2.2.2.2.1 : Value).ownBlock ∧ some k_ ≠ (s_.2.2.2.2.2.1 : Value).ownBlock ∧ some k_ ≠ (.slice Ao43 t372.length co43 : Value).ownBlock ∧ some k_ ≠ (.slice Ao51 t418.length co51 : Value).ownBlock ∧ some k_ ≠ (.slice Ao56 t419.length co56 : Value).ownBlock ∧ some k_ ≠ (.slice Ao61 t421.length co61 : Value).ownBlock ∧ some k_ ≠ (.slice Ao67 t422.length co67 : Value).ownBlock ∧ some k_ ≠ (.slice Ao71 t394.length co71 : Value).ownBlock ∧ some k_ ≠ (.slice Ao78 t397.length co78 : Value).ownBlock) (.slice Ao45 t375.length co45) t375) ∧ (Kd.R (Kd.int .i64) 3 w' w.heap.size (fun k_ => some k_ ≠ (s_.1 : Value).ownBlock ∧ some k_ ≠ (s_.2.1 : Value).ownBlock ∧ some k_ ≠ (s_.2.2.1 : Value).ownBlock ∧ some k_ ≠ (s_.2.2.2.1 : Value).ownBlock ∧ some k_ ≠ (s_.2.2.2.2.1 : Value).ownBlock ∧ some k_ ≠ (s_.2.2.2.2.2.1 : Value).ownBlock ∧ some k_ ≠ (.slice Ao43 t372.length co43 : Value).ownBlock ∧ some k_ ≠ (.slice Ao45 t375.length co45 : Value).ownBlock ∧ some k_ ≠ (.slice Ao56 t419.length co56 : Value).ownBlock ∧ some k_ ≠ (.slice Ao61 t421.length co61 : Value).ownBlock ∧ some k_ ≠ (.slice Ao67 t422.length co67 : Value).ownBlock ∧ some k_ ≠ (.slice Ao71 t394.length co71 : Value).ownBlock ∧ some k_ ≠ (.slice Ao78 t397.length co78 : Value).ownBlock) (.slice Ao51 t418.length co51) t418) ∧ (Kd.R (Kd.int .i64) 3 w' w.heap.size (fun k_ => some k_ ≠ (s_.1 : Value).ownBlock ∧ some k_ ≠ (s_.2.1 : Value).ownBlock ∧ some k_ ≠ (s_.2.2.1 : Value).ownBlock ∧ some k_ ≠ (s_.2.2.2.1 : Value).ownBlock ∧ some k_ ≠ (s_.2.2.2.2.1 : Value).ownBlock ∧ some k_ ≠ (s_.2.2.2.2.2.1 : Value).ownBlock ∧ some k_ ≠ (.slice Ao43 t372.length co43 : Value).ownBlock ∧ some k_ ≠ (.slice Ao45 t375.length co45 : Value).ownBlock ∧ some k_ ≠ (.slice Ao51 t418.length co51 : Value).ownBlock ∧ some k_ ≠ (.slice Ao61 t421.length co61 : Value).ownBlock ∧ some k_ ≠ (.slice Ao67 t422.length co67 : Value).ownBlock ∧ some k_ ≠ (.slice Ao71 t394.length co71 : Value).ownBlock ∧ some k_ ≠ (.slice Ao78 t397.length co78 : Value).ownBlock) (.slice Ao56 t419.length co56) t419) ∧ (Kd.R (Kd.int .i64) 3 w' w.heap.size (fun k_ => some k_ ≠ (s_.1 : Value).ownBlock ∧ some k_ ≠ (s_.2.1 : Value).ownBlock ∧ some k_ ≠ (s_.2.2.1 : Value).ownBlock ∧ some k_ ≠ (s_.2.2.2.1 : Value).ownBlock ∧ some k_ ≠ (s_.2.2.2.2.1 : Value).ownBlock ∧ some k_ ≠ (s_.2.2.2.2.2.1 : Value).ownBlock ∧ some k_ ≠ (.slice Ao43 t372.length co43 : Value).ownBlock ∧ some k_ ≠ (.slice Ao45 t375.length co45 : Value).ownBlock ∧ some k_ ≠ (.slice Ao51 t418.length co51 : Value).ownBlock ∧ some k_ ≠ (.slice Ao56 t419.length co56 : Value).ownBlock ∧ some k_ ≠ (.slice Ao67 t422.length co67 : Value).ownBlock ∧ some k_ ≠ (.slice Ao71 t394.length co71 : Value).ownBlock ∧ some k_ ≠ (.slice Ao78 t397.length co78 : Value).ownBlock) (.slice Ao61 t421.length co61) t421) ∧ (Kd.R (Kd.int .i64) 3 w' w.heap.size (fun k_ => some k_ ≠ (s_.1 : Value).ownBlock ∧ some k_ ≠ (s_.2.1 : Value).ownBlock ∧ some k_ ≠ (s_.2.2.1 : Value).ownBlock ∧ some k_ ≠ (s_.2.2.2.1 : Value).ownBlock ∧ some k_ ≠ (s_.2.2.2.2.1 : Value).ownBlock ∧ some k_ ≠ (s_.2.2.2.2.2.1 : Value).ownBlock ∧ some k_ ≠ (.slice Ao43 t372.length co43 : Value).ownBlock ∧ some k_ ≠ (.slice Ao45 t375.length co45 : Value).ownBlock ∧ some k_ ≠ (.slice Ao51 t418.length co51 : Value).ownBlock ∧ some k_ ≠ (.slice Ao56 t419.length co56 : Value).ownBlock ∧ some k_ ≠ (.slice Ao61 t421.length co61 : Value).ownBlock ∧ some k_ ≠ (.slice Ao71 t394.length co71 : Value).ownBlock ∧ some k_ ≠ (.slice Ao78 t397.length co78 : Value).ownBlock) (.slice Ao67 t422.length co67) t422) ∧ (Kd.R (Kd.int .i64) 3 w' w.heap.size (fun k_ => some k_ ≠ (s_.1 : Value).ownBlock ∧ some k_ ≠ (s_.2.1 : Value).ownBlock ∧ some k_ ≠ (s_.2.2.1 : Value).ownBlock ∧ some k_ ≠ (s_.2.2.2.1 : Value).ownBlock ∧ some k_ ≠ (s_.2.2.2.2.1 : Value).ownBlock ∧ some k_ ≠ (s_.2.2.2.2.2.1 : Value).ownBlock ∧ some k_ ≠ (.slice Ao43 t372.length co43 : Value).ownBlock ∧ some k_ ≠ (.slice Ao45 t375.length co45 : Value).ownBlock ∧ some k_ ≠ (.slice Ao51 t418.length co51 : Value).ownBlock ∧ some k_ ≠ (.slice Ao56 t419.length co56 : Value).ownBlock ∧ some k_ ≠ (.slice Ao61 t421.length co61 : Value).ownBlock ∧ some k_ ≠ (.slice Ao67 t422.length co67 : Value).ownBlock ∧ some k_ ≠ (.slice Ao78 t397.length co78 : Value).ownBlock) (.slice Ao71 t394.length co71) t425) ∧ (Kd.R (Kd.int .i64) 3 w' w.heap.size (fun k_ => some k_ ≠ (s_.1 : Value).ownBlock ∧ some k_ ≠ (s_.2.1 : Value).ownBlock ∧ some k_ ≠ (s_.2.2.1 : Value).ownBlock ∧ some k_ ≠ (s_.2.2.2.1 : Value).ownBlock ∧ some k_ ≠ (s_.2.2.2.2.1 : Value).ownBlock ∧ some k_ ≠ (s_.2.2.2.2.2.1 : Value).ownBlock ∧ some k_ ≠ (.slice Ao43 t372.length co43 : Value).ownBlock ∧ some k_ ≠ (.slice Ao45 t375.length co45 : Value).ownBlock ∧ some k_ ≠ (.slice Ao51 t418.length co51 : Value).ownBlock ∧ some k_ ≠ (.slice Ao56 t419.length co56 : Value).ownBlock ∧ some k_ ≠ (.slice Ao61 t421.length co61 : Value).ownBlock ∧ some k_ ≠ (.slice Ao67 t422.length co67 : Value).ownBlock ∧ some k_ ≠ (.slice Ao71 t394.length co71 : Value).ownBlock) (.slice Ao78 t397.length co78) t426) ∧ (w'.heap[gb356]? = some (.cells #[.slice A0_0 l0_0.length c0_0, .slice A0_1 l0_1.length c0_1] 24 (0, 0))) ∧ (w'.heap[gb357]? = some (.cells #[.slice A1_0 l1_0.length c1_0, .slice A1_1 l1_1.length c1_1] 24 (0, 0))) ∧ (w'.heap[gb379]? = some (.cells #[.slice Ao43 t372.length co43, .slice Ao45 t375.length co45] 26 (0, 0))) ∧ (w'.heap[gb386]? = some (.cells #[.slice Ao51 t418.length co51, .slice Ao56 t419.length co56] 26 (0, 0))) ∧ (w'.heap[gb393]? = some (.cells #[.slice Ao61 t421.length co61, .slice Ao67 t422.length co67] 26 (0, 0))) ∧ (w'.heap[gb401]? = some (.cells #[.slice Ao71 t394.length co71, .slice Ao78 t397.length co78] 26 (0, 0))) ∧ (w'.heap[s_.2.2.2.2.2.2]? = some (.cells #[.slice none 0 0, .slice none 0 0] 26 (0, 0))) ∧ (w.heap.size ≤ s_.2.2.2.2.2.2) ∧ (w.heap.size ≤ s_.2.2.2.2.2.2) ∧ (gb356 ≠ s_.2.2.2.2.2.2) ∧ (s_.2.2.2.2.2.2 ≠ gb356) ∧ (gb357 ≠ s_.2.2.2.2.2.2) ∧ (s_.2.2.2.2.2.2 ≠ gb357) ∧ (gb379 ≠ s_.2.2.2.2.2.2) ∧ (s_.2.2.2.2.2.2 ≠ gb379) ∧ (gb386 ≠ s_.2.2.2.2.2.2) ∧ (s_.2.2.2.2.2.2 ≠ gb386) ∧ (gb393 ≠ s_.2.2.2.2.2.2) ∧ (s_.2.2.2.2.2.2 ≠ gb393) ∧ (gb401 ≠ s_.2.2.2.2.2.2) ∧ (s_.2.2.2.2.2.2 ≠ gb401) ∧ (Below w.heap.size w w')) ?_ ?_
             rotate_left
             ·
              intro hCont
              refine two_ (i := 1) (j := 8) (Ni := some 96) (Nj := some 15) #[true, true, true, false, false, false, false, false, false, false, false] #[true, false, true, false, false, false, false, false, true, false, false] rfl rfl rfl rfl (two_of HT_.out (by kernel_rfl)) (by decide) (by decide) (fun K hK => ?_) (fun K hK => ?_)
              ·
               skip
               refine goes_ Try.func10 (by kernel_rfl) rfl #[.agg #[.slice A0_0 l0_0.length c0_0, .slice A0_1 l0_1.length c0_1]] (by rfl) rfl rfl (by (try simp only [List.map_toArray, List.map_cons, List.map_nil]); first | done | rfl | (simp only [List.length_drop, List.length_take]; rfl)) ?_
               with_reducible refine (laws_toArray.calls kj101 _ _ l0_0 _ _ l0_1 t428 t431 _ ?side1 ?side2 ?side3 ?side4 A146.out).mono ?_
               (case side1 => exact cU (Kd.C_below HR0_0.out HB.out))
               (case side2 => exact HC0_0.out)
               (case side3 => exact cU (Kd.C_below HR0_1.out HB.out))
               (case side4 => exact HC0_1.out)
               rintro e w160 ⟨v429, v432, rfl, ho0, ho1, hb⟩
               refine ⟨_, rfl, ?_⟩
               have HO430 := Aside0.mk (Kd.R_lower (Kd.R_new' (Kd.R_new' (Kd.R_new' (Kd.R_new' (Kd.R_new' (Kd.R_new' (Kd.R_new' (Kd.R_new' ho0 (Kd.R_lt (RU HO_380000.out))) (Kd.R_lt (RU HO_380001.out))) (Kd.R_lt (RU HO_387000.out))) (Kd.R_lt (RU HO_387001.out))) (Kd.R_lt (RU HO_394000.out))) (Kd.R_lt (RU HO_394001.out))) (Kd.R_lt (RU HO_402000.out))) (Kd.R_lt (RU HO_402001.out))) (below_size (by repeat (first | (with_reducible first | exact HB.out | apply below_alloc | apply pw_below_drewN | apply below_drew1 | refine below_set ?_ GE356.out | refine below_set ?_ GE357.out | refine below_set ?_ GE379.out | refine below_set ?_ GE386.out | refine below_set ?_ GE393.out | refine below_set ?_ GE401.out) | exact HB.out))))
               have HO433 := Aside0.mk (Kd.R_lower (Kd.R_new' (Kd.R_new' (Kd.R_new' (Kd.R_new' (Kd.R_new' (Kd.R_new' (Kd.R_new' (Kd.R_new' ho1 (Kd.R_lt (RU HO_380000.out))) (Kd.R_lt (RU HO_380001.out))) (Kd.R_lt (RU HO_387000.out))) (Kd.R_lt (RU HO_387001.out))) (Kd.R_lt (RU HO_394000.out))) (Kd.R_lt (RU HO_394001.out))) (Kd.R_lt (RU HO_402000.out))) (Kd.R_lt (RU HO_402001.out))) (below_size (by repeat (first | (with_reducible first | exact HB.out | apply below_alloc | apply pw_below_drewN | apply below_drew1 | refine below_set ?_ GE356.out | refine below_set ?_ GE357.out | refine below_set ?_ GE379.out | refine below_set ?_ GE386.out | refine below_set ?_ GE393.out | refine below_set ?_ GE401.out) | exact HB.out))))
               replace HO_380000 := Aside0.mk (Kd.R_mono (Kd.R_told (Kd.R_told (Kd.R_old (RU HO_380000.out) hb) (Kd.R_base ho0)) (Kd.R_base ho1)) (fun _ h_ => h_.1))
               replace HO_380001 := Aside0.mk (Kd.R_mono (Kd.R_told (Kd.R_told (Kd.R_old (RU HO_380001.out) hb) (Kd.R_base ho0)) (Kd.R_base ho1)) (fun _ h_ => h_.1))
               replace HO_387000 := Aside0.mk (Kd.R_mono (Kd.R_told (Kd.R_told (Kd.R_old (RU HO_387000.out) hb) (Kd.R_base ho0)) (Kd.R_base ho1)) (fun _ h_ => h_.1))
               replace HO_387001 := Aside0.mk (Kd.R_mono (Kd.R_told (Kd.R_told (Kd.R_old (RU HO_387001.out) hb) (Kd.R_base ho0)) (Kd.R_base ho1)) (fun _ h_ => h_.1))
               replace HO_394000 := Aside0.mk (Kd.R_mono (Kd.R_told (Kd.R_told (Kd.R_old (RU HO_394000.out) hb) (Kd.R_base ho0)) (Kd.R_base ho1)) (fun _ h_ => h_.1))
               replace HO_394001 := Aside0.mk (Kd.R_mono (Kd.R_told (Kd.R_told (Kd.R_old (RU HO_394001.out) hb) (Kd.R_base ho0)) (Kd.R_base ho1)) (fun _ h_ => h_.1))
               replace HO_402000 := Aside0.mk (Kd.R_mono (Kd.R_told (Kd.R_told (Kd.R_old (RU HO_402000.out) hb) (Kd.R_base ho0)) (Kd.R_base ho1)) (fun _ h_ => h_.1))
               replace HO_402001 := Aside0.mk (Kd.R_mono (Kd.R_told (Kd.R_told (Kd.R_old (RU HO_402001.out) hb) (Kd.R_base ho0)) (Kd.R_base ho1)) (fun _ h_ => h_.1))
               replace BK356 := Aside0.mk (blk_below (g := gb356) (o := .cells #[.slice A0_0 l0_0.length c0_0, .slice A0_1 l0_1.length c0_1] 24 (0, 0)) (kU BK356.out) hb)
               replace BK357 := Aside0.mk (blk_below (g := gb357) (o := .cells #[.slice A1_0 l1_0.length c1_0, .slice A1_1 l1_1.length c1_1] 24 (0, 0)) (kU BK357.out) hb)
               replace BK379 := Aside0.mk (blk_below (g := gb379) (o := .cells #[.slice Ao43 t372.length co43, .slice Ao45 t375.length co45] 26 (0, 0)) (kU BK379.out) hb)
               replace BK386 := Aside0.mk (blk_below (g := gb386) (o := .cells #[.slice Ao51 t418.length co51, .slice Ao56 t419.length co56] 26 (0, 0)) (kU BK386.out) hb)
               replace BK393 := Aside0.mk (blk_below (g := gb393) (o := .cells #[.slice Ao61 t421.length co61, .slice Ao67 t422.length co67] 26 (0, 0)) (kU BK393.out) hb)
               replace BK401 := Aside0.mk (blk_below (g := gb401) (o := .cells #[.slice Ao71 t394.length co71, .slice Ao78 t397.length co78] 26 (0, 0)) (kU BK401.out) hb)
               replace HB := Aside0.mk (below_step (by repeat (first | (with_reducible first | exact HB.out | apply below_alloc | apply pw_below_drewN | apply below_drew1 | refine below_set ?_ GE356.out | refine below_set ?_ GE357.out | refine below_set ?_ GE379.out | refine below_set ?_ GE386.out | refine below_set ?_ GE393.out | refine below_set ?_ GE401.out) | exact HB.out)) hb)
               (try clear hb)
               (try clear hb2)
               (try clear hk)
               (try clear hi)
               (try clear ho0)
               (try clear ho1)
               refine hK.out _ _ ⟨(blk_cell BK356.out 0).trans rfl, (blk_cell BK356.out 1).trans rfl, (blk_cell BK357.out 0).trans rfl, (blk_cell BK357.out 1).trans rfl⟩ (fun hHeld => ?_)
               clear hK K
               refine norm_ (a' := ?_) ?_ ?_
               rotate_left
               ·
                show Act.put _ (some 96) _ = _
                simp only [Act.put, List.setIfInBounds_toArray, List.set_cons_zero, List.set_cons_succ, i64_w, i32_w]
                rfl
               refine two_ (i := 3) (j := 8) (Ni := some 98) (Nj := some 15) #[true, true, true, true, false, false, false, false, false, false, false] #[true, true, true, false, false, false, false, false, true, false, false] rfl rfl rfl rfl (two_of HT_.out (by kernel_rfl)) (by decide) (by decide) (fun K hK => ?_) (fun K hK => ?_)
               ·
                skip
                refine goes_ Try.func10 (by kernel_rfl) rfl #[.agg #[.slice A1_0 l1_0.length c1_0, .slice A1_1 l1_1.length c1_1]] (by rfl) rfl rfl (by (try simp only [List.map_toArray, List.map_cons, List.map_nil]); first | done | rfl | (simp only [List.length_drop, List.length_take]; rfl)) ?_
                with_reducible refine (laws_toArray.calls kj101 _ _ l1_0 _ _ l1_1 t434 t437 _ ?side1 ?side2 ?side3 ?side4 A147.out).mono ?_
                (case side1 => exact cU (Kd.C_below HR1_0.out HB.out))
                (case side2 => exact HC1_0.out)
                (case side3 => exact cU (Kd.C_below HR1_1.out HB.out))
                (case side4 => exact HC1_1.out)
                rintro e w161 ⟨v435, v438, rfl, ho0, ho1, hb⟩
                refine ⟨_, rfl, ?_⟩
                have HO436 := Aside0.mk (Kd.R_lower (Kd.R_new' (Kd.R_new' (Kd.R_new' (Kd.R_new' (Kd.R_new' (Kd.R_new' (Kd.R_new' (Kd.R_new' (Kd.R_new' (Kd.R_new' ho0 (Kd.R_lt (RU HO_380000.out))) (Kd.R_lt (RU HO_380001.out))) (Kd.R_lt (RU HO_387000.out))) (Kd.R_lt (RU HO_387001.out))) (Kd.R_lt (RU HO_394000.out))) (Kd.R_lt (RU HO_394001.out))) (Kd.R_lt (RU HO_402000.out))) (Kd.R_lt (RU HO_402001.out))) (Kd.R_lt (RU HO430.out))) (Kd.R_lt (RU HO433.out))) (below_size (by repeat (first | (with_reducible first | exact HB.out | apply below_alloc | apply pw_below_drewN | apply below_drew1 | refine below_set ?_ GE356.out | refine below_set ?_ GE357.out | refine below_set ?_ GE379.out | refine below_set ?_ GE386.out | refine below_set ?_ GE393.out | refine below_set ?_ GE401.out) | exact HB.out))))
                have HO439 := Aside0.mk (Kd.R_lower (Kd.R_new' (Kd.R_new' (Kd.R_new' (Kd.R_new' (Kd.R_new' (Kd.R_new' (Kd.R_new' (Kd.R_new' (Kd.R_new' (Kd.R_new' ho1 (Kd.R_lt (RU HO_380000.out))) (Kd.R_lt (RU HO_380001.out))) (Kd.R_lt (RU HO_387000.out))) (Kd.R_lt (RU HO_387001.out))) (Kd.R_lt (RU HO_394000.out))) (Kd.R_lt (RU HO_394001.out))) (Kd.R_lt (RU HO_402000.out))) (Kd.R_lt (RU HO_402001.out))) (Kd.R_lt (RU HO430.out))) (Kd.R_lt (RU HO433.out))) (below_size (by repeat (first | (with_reducible first | exact HB.out | apply below_alloc | apply pw_below_drewN | apply below_drew1 | refine below_set ?_ GE356.out | refine below_set ?_ GE357.out | refine below_set ?_ GE379.out | refine below_set ?_ GE386.out | refine below_set ?_ GE393.out | refine below_set ?_ GE401.out) | exact HB.out))))
                replace HO_380000 := Aside0.mk (Kd.R_mono (Kd.R_told (Kd.R_told (Kd.R_old (RU HO_380000.out) hb) (Kd.R_base ho0)) (Kd.R_base ho1)) (fun _ h_ => h_.1))
                replace HO_380001 := Aside0.mk (Kd.R_mono (Kd.R_told (Kd.R_told (Kd.R_old (RU HO_380001.out) hb) (Kd.R_base ho0)) (Kd.R_base ho1)) (fun _ h_ => h_.1))
                replace HO_387000 := Aside0.mk (Kd.R_mono (Kd.R_told (Kd.R_told (Kd.R_old (RU HO_387000.out) hb) (Kd.R_base ho0)) (Kd.R_base ho1)) (fun _ h_ => h_.1))
                replace HO_387001 := Aside0.mk (Kd.R_mono (Kd.R_told (Kd.R_told (Kd.R_old (RU HO_387001.out) hb) (Kd.R_base ho0)) (Kd.R_base ho1)) (fun _ h_ => h_.1))
                replace HO_394000 := Aside0.mk (Kd.R_mono (Kd.R_told (Kd.R_told (Kd.R_old (RU HO_394000.out) hb) (Kd.R_base ho0)) (Kd.R_base ho1)) (fun _ h_ => h_.1))
                replace HO_394001 := Aside0.mk (Kd.R_mono (Kd.R_told (Kd.R_told (Kd.R_old (RU HO_394001.out) hb) (Kd.R_base ho0)) (Kd.R_base ho1)) (fun _ h_ => h_.1))
                replace HO_402000 := Aside0.mk (Kd.R_mono (Kd.R_told (Kd.R_told (Kd.R_old (RU HO_402000.out) hb) (Kd.R_base ho0)) (Kd.R_base ho1)) (fun _ h_ => h_.1))
                replace HO_402001 := Aside0.mk (Kd.R_mono (Kd.R_told (Kd.R_told (Kd.R_old (RU HO_402001.out) hb) (Kd.R_base ho0)) (Kd.R_base ho1)) (fun _ h_ => h_.1))
                replace HO430 := Aside0.mk (Kd.R_mono (Kd.R_told (Kd.R_told (Kd.R_old (RU HO430.out) hb) (Kd.R_base ho0)) (Kd.R_base ho1)) (fun _ h_ => h_.1))
                replace HO433 := Aside0.mk (Kd.R_mono (Kd.R_told (Kd.R_told (Kd.R_old (RU HO433.out) hb) (Kd.R_base ho0)) (Kd.R_base ho1)) (fun _ h_ => h_.1))
                replace BK356 := Aside0.mk (blk_below (g := gb356) (o := .cells #[.slice A0_0 l0_0.length c0_0, .slice A0_1 l0_1.length c0_1] 24 (0, 0)) (kU BK356.out) hb)
                replace BK357 := Aside0.mk (blk_below (g := gb357) (o := .cells #[.slice A1_0 l1_0.length c1_0, .slice A1_1 l1_1.length c1_1] 24 (0, 0)) (kU BK357.out) hb)
                replace BK379 := Aside0.mk (blk_below (g := gb379) (o := .cells #[.slice Ao43 t372.length co43, .slice Ao45 t375.length co45] 26 (0, 0)) (kU BK379.out) hb)
                replace BK386 := Aside0.mk (blk_below (g := gb386) (o := .cells #[.slice Ao51 t418.length co51, .slice Ao56 t419.length co56] 26 (0, 0)) (kU BK386.out) hb)
                replace BK393 := Aside0.mk (blk_below (g := gb393) (o := .cells #[.slice Ao61 t421.length co61, .slice Ao67 t422.length co67] 26 (0, 0)) (kU BK393.out) hb)
                replace BK401 := Aside0.mk (blk_below (g := gb401) (o := .cells #[.slice Ao71 t394.length co71, .slice Ao78 t397.length co78] 26 (0, 0)) (kU BK401.out) hb)
                replace HB := Aside0.mk (below_step (by repeat (first | (with_reducible first | exact HB.out | apply below_alloc | apply pw_below_drewN | apply below_drew1 | refine below_set ?_ GE356.out | refine below_set ?_ GE357.out | refine below_set ?_ GE379.out | refine below_set ?_ GE386.out | refine below_set ?_ GE393.out | refine below_set ?_ GE401.out) | exact HB.out)) hb)
                (try clear hb)
                (try clear hb2)
                (try clear hk)
                (try clear hi)
                (try clear ho0)
                (try clear ho1)
                obtain ⟨Ao162, co162, eo162⟩ := Kd.R_slice HO430.out
                (first | subst eo162 | (injection eo162 with f1_ f2_ f3_; have f4_ := f1_.symm; have f5_ := f3_.symm; clear f1_ f2_ f3_; subst f4_; subst f5_))
                obtain ⟨Ao163, co163, eo163⟩ := Kd.R_slice HO433.out
                (first | subst eo163 | (injection eo163 with f1_ f2_ f3_; have f4_ := f1_.symm; have f5_ := f3_.symm; clear f1_ f2_ f3_; subst f4_; subst f5_))
                obtain ⟨Ao164, co164, eo164⟩ := Kd.R_slice HO436.out
                (first | subst eo164 | (injection eo164 with f1_ f2_ f3_; have f4_ := f1_.symm; have f5_ := f3_.symm; clear f1_ f2_ f3_; subst f4_; subst f5_))
                obtain ⟨Ao165, co165, eo165⟩ := Kd.R_slice HO439.out
                (first | subst eo165 | (injection eo165 with f1_ f2_ f3_; have f4_ := f1_.symm; have f5_ := f3_.symm; clear f1_ f2_ f3_; subst f4_; subst f5_))
                refine hK.out _ _ ⟨(blk_cell BK356.out 0).trans rfl, (blk_cell BK356.out 1).trans rfl, (blk_cell BK357.out 0).trans rfl, (blk_cell BK357.out 1).trans rfl⟩ (fun hHeld => ?_)
                clear hK K
                refine norm_ (a' := ?_) ?_ ?_
                rotate_left
                ·
                 show Act.put _ (some 98) _ = _
                 simp only [Act.put, List.setIfInBounds_toArray, List.set_cons_zero, List.set_cons_succ, i64_w, i32_w]
                 rfl
                refine two_ (i := 4) (j := 8) (Ni := some 99) (Nj := some 15) #[true, true, true, true, true, false, false, false, false, false, false] #[true, true, true, true, false, false, false, false, true, false, false] rfl rfl rfl rfl (two_of HT_.out (by kernel_rfl)) (by decide) (by decide) (fun K hK => ?_) (fun K hK => ?_)
                ·
                 skip
                 refine goes_ Try.func11 (by kernel_rfl) rfl #[.agg #[.slice Ao162 t428.length co162, .slice Ao163 t431.length co163], .agg #[.slice Ao164 t434.length co164, .slice Ao165 t437.length co165]] (by rfl) rfl rfl (by (try simp only [List.map_toArray, List.map_cons, List.map_nil]); first | done | rfl | (simp only [List.length_drop, List.length_take]; rfl)) ?_
                 with_reducible refine (impl_Drop.calls kj101 _ _ t428 _ _ t431 _ _ t434 _ _ t437 t440 t443 t446 _ ?side1 ?side2 ?side3 ?side4 ?side5 ?side6 ?side7 ?side8 A148.out).mono ?_
                 (case side1 => exact cU (Kd.R_reads' HO430.out).2.2)
                 (case side2 => exact (Kd.R_reads' HO430.out).2.1)
                 (case side3 => exact cU (Kd.R_reads' HO433.out).2.2)
                 (case side4 => exact (Kd.R_reads' HO433.out).2.1)
                 (case side5 => exact cU (Kd.R_reads' HO436.out).2.2)
                 (case side6 => exact (Kd.R_reads' HO436.out).2.1)
                 (case side7 => exact cU (Kd.R_reads' HO439.out).2.2)
                 (case side8 => exact (Kd.R_reads' HO439.out).2.1)
                 rintro e w166 ⟨v441, v444, rfl, ho0, ho1, hb⟩
                 refine ⟨_, rfl, ?_⟩
                 have HO442 := Aside0.mk (Kd.R_lower (Kd.R_new' (Kd.R_new' (Kd.R_new' (Kd.R_new' (Kd.R_new' (Kd.R_new' (Kd.R_new' (Kd.R_new' (Kd.R_new' (Kd.R_new' (Kd.R_new' (Kd.R_new' ho0 (Kd.R_lt (RU HO_380000.out))) (Kd.R_lt (RU HO_380001.out))) (Kd.R_lt (RU HO_387000.out))) (Kd.R_lt (RU HO_387001.out))) (Kd.R_lt (RU HO_394000.out))) (Kd.R_lt (RU HO_394001.out))) (Kd.R_lt (RU HO_402000.out))) (Kd.R_lt (RU HO_402001.out))) (Kd.R_lt (RU HO430.out))) (Kd.R_lt (RU HO433.out))) (Kd.R_lt (RU HO436.out))) (Kd.R_lt (RU HO439.out))) (below_size (by repeat (first | (with_reducible first | exact HB.out | apply below_alloc | apply pw_below_drewN | apply below_drew1 | refine below_set ?_ GE356.out | refine below_set ?_ GE357.out | refine below_set ?_ GE379.out | refine below_set ?_ GE386.out | refine below_set ?_ GE393.out | refine below_set ?_ GE401.out) | exact HB.out))))
                 have HO445 := Aside0.mk (Kd.R_lower (Kd.R_new' (Kd.R_new' (Kd.R_new' (Kd.R_new' (Kd.R_new' (Kd.R_new' (Kd.R_new' (Kd.R_new' (Kd.R_new' (Kd.R_new' (Kd.R_new' (Kd.R_new' ho1 (Kd.R_lt (RU HO_380000.out))) (Kd.R_lt (RU HO_380001.out))) (Kd.R_lt (RU HO_387000.out))) (Kd.R_lt (RU HO_387001.out))) (Kd.R_lt (RU HO_394000.out))) (Kd.R_lt (RU HO_394001.out))) (Kd.R_lt (RU HO_402000.out))) (Kd.R_lt (RU HO_402001.out))) (Kd.R_lt (RU HO430.out))) (Kd.R_lt (RU HO433.out))) (Kd.R_lt (RU HO436.out))) (Kd.R_lt (RU HO439.out))) (below_size (by repeat (first | (with_reducible first | exact HB.out | apply below_alloc | apply pw_below_drewN | apply below_drew1 | refine below_set ?_ GE356.out | refine below_set ?_ GE357.out | refine below_set ?_ GE379.out | refine below_set ?_ GE386.out | refine below_set ?_ GE393.out | refine below_set ?_ GE401.out) | exact HB.out))))
                 replace HO_380000 := Aside0.mk (Kd.R_mono (Kd.R_told (Kd.R_told (Kd.R_old (RU HO_380000.out) hb) (Kd.R_base ho0)) (Kd.R_base ho1)) (fun _ h_ => h_.1))
                 replace HO_380001 := Aside0.mk (Kd.R_mono (Kd.R_told (Kd.R_told (Kd.R_old (RU HO_380001.out) hb) (Kd.R_base ho0)) (Kd.R_base ho1)) (fun _ h_ => h_.1))
                 replace HO_387000 := Aside0.mk (Kd.R_mono (Kd.R_told (Kd.R_told (Kd.R_old (RU HO_387000.out) hb) (Kd.R_base ho0)) (Kd.R_base ho1)) (fun _ h_ => h_.1))
                 replace HO_387001 := Aside0.mk (Kd.R_mono (Kd.R_told (Kd.R_told (Kd.R_old (RU HO_387001.out) hb) (Kd.R_base ho0)) (Kd.R_base ho1)) (fun _ h_ => h_.1))
                 replace HO_394000 := Aside0.mk (Kd.R_mono (Kd.R_told (Kd.R_told (Kd.R_old (RU HO_394000.out) hb) (Kd.R_base ho0)) (Kd.R_base ho1)) (fun _ h_ => h_.1))
                 replace HO_394001 := Aside0.mk (Kd.R_mono (Kd.R_told (Kd.R_told (Kd.R_old (RU HO_394001.out) hb) (Kd.R_base ho0)) (Kd.R_base ho1)) (fun _ h_ => h_.1))
                 replace HO_402000 := Aside0.mk (Kd.R_mono (Kd.R_told (Kd.R_told (Kd.R_old (RU HO_402000.out) hb) (Kd.R_base ho0)) (Kd.R_base ho1)) (fun _ h_ => h_.1))
                 replace HO_402001 := Aside0.mk (Kd.R_mono (Kd.R_told (Kd.R_told (Kd.R_old (RU HO_402001.out) hb) (Kd.R_base ho0)) (Kd.R_base ho1)) (fun _ h_ => h_.1))
                 replace HO430 := Aside0.mk (Kd.R_mono (Kd.R_told (Kd.R_told (Kd.R_old (RU HO430.out) hb) (Kd.R_base ho0)) (Kd.R_base ho1)) (fun _ h_ => h_.1))
                 replace HO433 := Aside0.mk (Kd.R_mono (Kd.R_told (Kd.R_told (Kd.R_old (RU HO433.out) hb) (Kd.R_base ho0)) (Kd.R_base ho1)) (fun _ h_ => h_.1))
                 replace HO436 := Aside0.mk (Kd.R_mono (Kd.R_told (Kd.R_told (Kd.R_old (RU HO436.out) hb) (Kd.R_base ho0)) (Kd.R_base ho1)) (fun _ h_ => h_.1))
                 replace HO439 := Aside0.mk (Kd.R_mono (Kd.R_told (Kd.R_told (Kd.R_old (RU HO439.out) hb) (Kd.R_base ho0)) (Kd.R_base ho1)) (fun _ h_ => h_.1))
                 replace BK356 := Aside0.mk (blk_below (g := gb356) (o := .cells #[.slice A0_0 l0_0.length c0_0, .slice A0_1 l0_1.length c0_1] 24 (0, 0)) (kU BK356.out) hb)
                 replace BK357 := Aside0.mk (blk_below (g := gb357) (o := .cells #[.slice A1_0 l1_0.length c1_0, .slice A1_1 l1_1.length c1_1] 24 (0, 0)) (kU BK357.out) hb)
                 replace BK379 := Aside0.mk (blk_below (g := gb379) (o := .cells #[.slice Ao43 t372.length co43, .slice Ao45 t375.length co45] 26 (0, 0)) (kU BK379.out) hb)
                 replace BK386 := Aside0.mk (blk_below (g := gb386) (o := .cells #[.slice Ao51 t418.length co51, .slice Ao56 t419.length co56] 26 (0, 0)) (kU BK386.out) hb)
                 replace BK393 := Aside0.mk (blk_below (g := gb393) (o := .cells #[.slice Ao61 t421.length co61, .slice Ao67 t422.length co67] 26 (0, 0)) (kU BK393.out) hb)
                 replace BK401 := Aside0.mk (blk_below (g := gb401) (o := .cells #[.slice Ao71 t394.length co71, .slice Ao78 t397.length co78] 26 (0, 0)) (kU BK401.out) hb)
                 replace HB := Aside0.mk (below_step (by repeat (first | (with_reducible first | exact HB.out | apply below_alloc | apply pw_below_drewN | apply below_drew1 | refine below_set ?_ GE356.out | refine below_set ?_ GE357.out | refine below_set ?_ GE379.out | refine below_set ?_ GE386.out | refine below_set ?_ GE393.out | refine below_set ?_ GE401.out) | exact HB.out)) hb)
                 (try clear hb)
                 (try clear hb2)
                 (try clear hk)
                 (try clear hi)
                 (try clear ho0)
                 (try clear ho1)
                 refine hK.out _ _ ⟨(blk_cell BK356.out 0).trans rfl, (blk_cell BK356.out 1).trans rfl, (blk_cell BK357.out 0).trans rfl, (blk_cell BK357.out 1).trans rfl⟩ (fun hHeld => ?_)
                 clear hK K
                 refine norm_ (a' := ?_) ?_ ?_
                 rotate_left
                 ·
                  show Act.put _ (some 99) _ = _
                  simp only [Act.put, List.setIfInBounds_toArray, List.set_cons_zero, List.set_cons_succ, i64_w, i32_w]
                  rfl
                 refine pure_ (i := 5) (N := some 94) (v := ?_) (a' := ?_) #[true, true, true, true, true, true, false, false, false, false, false] rfl rfl (any_of HT_.out (by kernel_rfl)) (fun _ _ _ h => h) (Or.inl ⟨by rfl, ?_⟩) ?_ ?_
                 rotate_left
                 ·
                  intro w'
                  go_simp
                  with_reducible rfl
                 rotate_left
                 ·
                  simp only [Act.put, List.setIfInBounds_toArray, List.set_cons_zero, List.set_cons_succ, i64_w, i32_w]
                  rfl
                 refine pure_ (i := 6) (N := some 100) (v := ?_) (a' := ?_) #[true, true, true, true, true, true, true, false, false, false, false] rfl rfl (any_of HT_.out (by kernel_rfl)) (fun _ _ _ h => h) (Or.inl ⟨by rfl, ?_⟩) ?_ ?_
                 rotate_left
                 ·
                  intro w'
                  go_simp
                  with_reducible rfl
                 rotate_left
                 ·
                  simp only [Act.put, List.setIfInBounds_toArray, List.set_cons_zero, List.set_cons_succ, i64_w, i32_w]
                  rfl
                 refine pure_ (i := 7) (N := some 101) (v := ?_) (a' := ?_) #[true, true, true, true, true, true, true, true, false, false, false] rfl rfl (any_of HT_.out (by kernel_rfl)) (fun _ _ _ h => h) (Or.inl ⟨by rfl, ?_⟩) ?_ ?_
                 rotate_left
                 ·
                  intro w'
                  go_simp
                  with_reducible rfl
                 rotate_left
                 ·
                  simp only [Act.put, List.setIfInBounds_toArray, List.set_cons_zero, List.set_cons_succ, i64_w, i32_w]
                  rfl
                 refine one_ (i := 8) (N := some 15) #[true, true, true, true, true, true, true, true, true, false, false] rfl rfl (one_of HT_.out (by kernel_rfl)) (by decide) (fun K hK => ?_)
                 refine box_step ?hg (N := 15) ?hd (cs := #[.slice none 0 0, .slice none 0 0]) (t := 26) ?hr ?_; (case hd => rfl); (case hg => rfl); (case hr => first | (go_simp; done) | (go_simp; rfl))
                 intro gb447 hg w167 hbox hb
                 replace HO_380000 := Aside0.mk (Kd.R_below (RU HO_380000.out) hb)
                 replace HO_380001 := Aside0.mk (Kd.R_below (RU HO_380001.out) hb)
                 replace HO_387000 := Aside0.mk (Kd.R_below (RU HO_387000.out) hb)
                 replace HO_387001 := Aside0.mk (Kd.R_below (RU HO_387001.out) hb)
                 replace HO_394000 := Aside0.mk (Kd.R_below (RU HO_394000.out) hb)
                 replace HO_394001 := Aside0.mk (Kd.R_below (RU HO_394001.out) hb)
                 replace HO_402000 := Aside0.mk (Kd.R_below (RU HO_402000.out) hb)
                 replace HO_402001 := Aside0.mk (Kd.R_below (RU HO_402001.out) hb)
                 replace HO430 := Aside0.mk (Kd.R_below (RU HO430.out) hb)
                 replace HO433 := Aside0.mk (Kd.R_below (RU HO433.out) hb)
                 replace HO436 := Aside0.mk (Kd.R_below (RU HO436.out) hb)
                 replace HO439 := Aside0.mk (Kd.R_below (RU HO439.out) hb)
                 replace HO442 := Aside0.mk (Kd.R_below (RU HO442.out) hb)
                 replace HO445 := Aside0.mk (Kd.R_below (RU HO445.out) hb)
                 have BK447 := Aside0.mk (hbox)
                 have GW447 := Aside0.mk ((by rw [hg]; exact (below_size (by repeat (first | (with_reducible first | exact HB.out | apply below_alloc | apply pw_below_drewN | apply below_drew1 | refine below_set ?_ GE356.out | refine below_set ?_ GE357.out | refine below_set ?_ GE379.out | refine below_set ?_ GE386.out | refine below_set ?_ GE393.out | refine below_set ?_ GE401.out) | exact HB.out))) : w.heap.size ≤ gb447))
                 have GE447 := Aside0.mk ((by rw [hg]; exact (below_size (by repeat (first | (with_reducible first | exact HB.out | apply below_alloc | apply pw_below_drewN | apply below_drew1 | refine below_set ?_ GE356.out | refine below_set ?_ GE357.out | refine below_set ?_ GE379.out | refine below_set ?_ GE386.out | refine below_set ?_ GE393.out | refine below_set ?_ GE401.out) | exact HB.out))) : w.heap.size ≤ gb447))
                 replace HB := Aside0.mk (below_step (by repeat (first | (with_reducible first | exact HB.out | apply below_alloc | apply pw_below_drewN | apply below_drew1 | refine below_set ?_ GE356.out | refine below_set ?_ GE357.out | refine below_set ?_ GE379.out | refine below_set ?_ GE386.out | refine below_set ?_ GE393.out | refine below_set ?_ GE401.out) | exact HB.out)) hb)
                 have NB356_447 := Aside0.mk ((by rw [hg]; exact Nat.ne_of_lt (blk_lt (g := gb356) (o := .cells #[.slice A0_0 l0_0.length c0_0, .slice A0_1 l0_1.length c0_1] 24 (0, 0)) (kU BK356.out)) : gb356 ≠ gb447))
                 have NB447_356 := Aside0.mk ((by rw [hg]; exact Nat.ne_of_gt (blk_lt (g := gb356) (o := .cells #[.slice A0_0 l0_0.length c0_0, .slice A0_1 l0_1.length c0_1] 24 (0, 0)) (kU BK356.out)) : gb447 ≠ gb356))
                 replace BK356 := Aside0.mk (blk_below (g := gb356) (o := .cells #[.slice A0_0 l0_0.length c0_0, .slice A0_1 l0_1.length c0_1] 24 (0, 0)) (kU BK356.out) hb)
                 have NB357_447 := Aside0.mk ((by rw [hg]; exact Nat.ne_of_lt (blk_lt (g := gb357) (o := .cells #[.slice A1_0 l1_0.length c1_0, .slice A1_1 l1_1.length c1_1] 24 (0, 0)) (kU BK357.out)) : gb357 ≠ gb447))
                 have NB447_357 := Aside0.mk ((by rw [hg]; exact Nat.ne_of_gt (blk_lt (g := gb357) (o := .cells #[.slice A1_0 l1_0.length c1_0, .slice A1_1 l1_1.length c1_1] 24 (0, 0)) (kU BK357.out)) : gb447 ≠ gb357))
                 replace BK357 := Aside0.mk (blk_below (g := gb357) (o := .cells #[.slice A1_0 l1_0.length c1_0, .slice A1_1 l1_1.length c1_1] 24 (0, 0)) (kU BK357.out) hb)
                 have NB379_447 := Aside0.mk ((by rw [hg]; exact Nat.ne_of_lt (blk_lt (g := gb379) (o := .cells #[.slice Ao43 t372.length co43, .slice Ao45 t375.length co45] 26 (0, 0)) (kU BK379.out)) : gb379 ≠ gb447))
                 have NB447_379 := Aside0.mk ((by rw [hg]; exact Nat.ne_of_gt (blk_lt (g := gb379) (o := .cells #[.slice Ao43 t372.length co43, .slice Ao45 t375.length co45] 26 (0, 0)) (kU BK379.out)) : gb447 ≠ gb379))
                 replace BK379 := Aside0.mk (blk_below (g := gb379) (o := .cells #[.slice Ao43 t372.length co43, .slice Ao45 t375.length co45] 26 (0, 0)) (kU BK379.out) hb)
                 have NB386_447 := Aside0.mk ((by rw [hg]; exact Nat.ne_of_lt (blk_lt (g := gb386) (o := .cells #[.slice Ao51 t418.length co51, .slice Ao56 t419.length co56] 26 (0, 0)) (kU BK386.out)) : gb386 ≠ gb447))
                 have NB447_386 := Aside0.mk ((by rw [hg]; exact Nat.ne_of_gt (blk_lt (g := gb386) (o := .cells #[.slice Ao51 t418.length co51, .slice Ao56 t419.length co56] 26 (0, 0)) (kU BK386.out)) : gb447 ≠ gb386))
                 replace BK386 := Aside0.mk (blk_below (g := gb386) (o := .cells #[.slice Ao51 t418.length co51, .slice Ao56 t419.length co56] 26 (0, 0)) (kU BK386.out) hb)
                 have NB393_447 := Aside0.mk ((by rw [hg]; exact Nat.ne_of_lt (blk_lt (g := gb393) (o := .cells #[.slice Ao61 t421.length co61, .slice Ao67 t422.length co67] 26 (0, 0)) (kU BK393.out)) : gb393 ≠ gb447))
                 have NB447_393 := Aside0.mk ((by rw [hg]; exact Nat.ne_of_gt (blk_lt (g := gb393) (o := .cells #[.slice Ao61 t421.length co61, .slice Ao67 t422.length co67] 26 (0, 0)) (kU BK393.out)) : gb447 ≠ gb393))
                 replace BK393 := Aside0.mk (blk_below (g := gb393) (o := .cells #[.slice Ao61 t421.length co61, .slice Ao67 t422.length co67] 26 (0, 0)) (kU BK393.out) hb)
                 have NB401_447 := Aside0.mk ((by rw [hg]; exact Nat.ne_of_lt (blk_lt (g := gb401) (o := .cells #[.slice Ao71 t394.length co71, .slice Ao78 t397.length co78] 26 (0, 0)) (kU BK401.out)) : gb401 ≠ gb447))
                 have NB447_401 := Aside0.mk ((by rw [hg]; exact Nat.ne_of_gt (blk_lt (g := gb401) (o := .cells #[.slice Ao71 t394.length co71, .slice Ao78 t397.length co78] 26 (0, 0)) (kU BK401.out)) : gb447 ≠ gb401))
                 replace BK401 := Aside0.mk (blk_below (g := gb401) (o := .cells #[.slice Ao71 t394.length co71, .slice Ao78 t397.length co78] 26 (0, 0)) (kU BK401.out) hb)
                 clear hb hbox hg
                 refine hK.out _ _ ⟨(blk_cell BK356.out 0).trans rfl, (blk_cell BK356.out 1).trans rfl, (blk_cell BK357.out 0).trans rfl, (blk_cell BK357.out 1).trans rfl⟩ (fun hHeld => ?_)
                 clear hK K
                 refine norm_ (a' := ?_) ?_ ?_
                 rotate_left
                 ·
                  show Act.put _ (some 15) _ = _
                  simp only [Act.put, List.setIfInBounds_toArray, List.set_cons_zero, List.set_cons_succ, i64_w, i32_w]
                  rfl
                 exact norm_ (by simp only [putAll, Act.put, List.setIfInBounds_toArray, List.set_cons_zero, List.set_cons_succ]) (hCont (.slice Ao162 t428.length co162, .slice Ao163 t431.length co163, .slice Ao164 t434.length co164, .slice Ao165 t437.length co165, v441, v444, gb447) _ ⟨hHeld, (by (with_reducible repeat (first | apply Kd.R_alloc | apply Kd.R_drewN | apply Kd.R_drew)); exact Kd.R_mono HO430.out (fun _ hk => ⟨hk.1.1.1.1.1.1.1.1.1.1.1.1, ⟨hk.1.1.1.2, ⟨hk.1.1.2, ⟨hk.1.2, ⟨hk.2, ⟨hk.1.1.1.1.1.1.1.1.1.1.1.2, ⟨hk.1.1.1.1.1.1.1.1.1.1.2, ⟨hk.1.1.1.1.1.1.1.1.1.2, ⟨hk.1.1.1.1.1.1.1.1.2, ⟨hk.1.1.1.1.1.1.1.2, ⟨hk.1.1.1.1.1.1.2, ⟨hk.1.1.1.1.1.2, hk.1.1.1.1.2⟩⟩⟩⟩⟩⟩⟩⟩⟩⟩⟩⟩)), (by (with_reducible repeat (first | apply Kd.R_alloc | apply Kd.R_drewN | apply Kd.R_drew)); exact Kd.R_mono HO433.out (fun _ hk => ⟨hk.1.1.1.1.1.1.1.1.1.1.1.1, ⟨hk.1.1.1.2, ⟨hk.1.1.2, ⟨hk.1.2, ⟨hk.2, ⟨hk.1.1.1.1.1.1.1.1.1.1.1.2, ⟨hk.1.1.1.1.1.1.1.1.1.1.2, ⟨hk.1.1.1.1.1.1.1.1.1.2, ⟨hk.1.1.1.1.1.1.1.1.2, ⟨hk.1.1.1.1.1.1.1.2, ⟨hk.1.1.1.1.1.1.2, ⟨hk.1.1.1.1.1.2, hk.1.1.1.1.2⟩⟩⟩⟩⟩⟩⟩⟩⟩⟩⟩⟩)), (by (with_reducible repeat (first | apply Kd.R_alloc | apply Kd.R_drewN | apply Kd.R_drew)); exact Kd.R_mono HO436.out (fun _ hk => ⟨hk.1.1.1.2, ⟨hk.1.1.2, ⟨hk.1.1.1.1.1.1.1.1.1.1.1.1, ⟨hk.1.2, ⟨hk.2, ⟨hk.1.1.1.1.1.1.1.1.1.1.1.2, ⟨hk.1.1.1.1.1.1.1.1.1.1.2, ⟨hk.1.1.1.1.1.1.1.1.1.2, ⟨hk.1.1.1.1.1.1.1.1.2, ⟨hk.1.1.1.1.1.1.1.2, ⟨hk.1.1.1.1.1.1.2, ⟨hk.1.1.1.1.1.2, hk.1.1.1.1.2⟩⟩⟩⟩⟩⟩⟩⟩⟩⟩⟩⟩)), (by (with_reducible repeat (first | apply Kd.R_alloc | apply Kd.R_drewN | apply Kd.R_drew)); exact Kd.R_mono HO439.out (fun _ hk => ⟨hk.1.1.1.2, ⟨hk.1.1.2, ⟨hk.1.1.1.1.1.1.1.1.1.1.1.1, ⟨hk.1.2, ⟨hk.2, ⟨hk.1.1.1.1.1.1.1.1.1.1.1.2, ⟨hk.1.1.1.1.1.1.1.1.1.1.2, ⟨hk.1.1.1.1.1.1.1.1.1.2, ⟨hk.1.1.1.1.1.1.1.1.2, ⟨hk.1.1.1.1.1.1.1.2, ⟨hk.1.1.1.1.1.1.2, ⟨hk.1.1.1.1.1.2, hk.1.1.1.1.2⟩⟩⟩⟩⟩⟩⟩⟩⟩⟩⟩⟩)), (by (with_reducible repeat (first | apply Kd.R_alloc | apply Kd.R_drewN | apply Kd.R_drew)); exact Kd.R_mono HO442.out (fun _ hk => ⟨hk.1.1.1.2, ⟨hk.1.1.2, ⟨hk.1.2, ⟨hk.2, ⟨hk.1.1.1.1.1.1.1.1.1.1.1.1, ⟨hk.1.1.1.1.1.1.1.1.1.1.1.2, ⟨hk.1.1.1.1.1.1.1.1.1.1.2, ⟨hk.1.1.1.1.1.1.1.1.1.2, ⟨hk.1.1.1.1.1.1.1.1.2, ⟨hk.1.1.1.1.1.1.1.2, ⟨hk.1.1.1.1.1.1.2, ⟨hk.1.1.1.1.1.2, hk.1.1.1.1.2⟩⟩⟩⟩⟩⟩⟩⟩⟩⟩⟩⟩)), (by (with_reducible repeat (first | apply Kd.R_alloc | apply Kd.R_drewN | apply Kd.R_drew)); exact Kd.R_mono HO445.out (fun _ hk => ⟨hk.1.1.1.2, ⟨hk.1.1.2, ⟨hk.1.2, ⟨hk.2, ⟨hk.1.1.1.1.1.1.1.1.1.1.1.1, ⟨hk.1.1.1.1.1.1.1.1.1.1.1.2, ⟨hk.1.1.1.1.1.1.1.1.1.1.2, ⟨hk.1.1.1.1.1.1.1.1.1.2, ⟨hk.1.1.1.1.1.1.1.1.2, ⟨hk.1.1.1.1.1.1.1.2, ⟨hk.1.1.1.1.1.1.2, ⟨hk.1.1.1.1.1.2, hk.1.1.1.1.2⟩⟩⟩⟩⟩⟩⟩⟩⟩⟩⟩⟩)), (by (with_reducible repeat (first | apply Kd.R_alloc | apply Kd.R_drewN | apply Kd.R_drew)); exact Kd.R_mono HO_380000.out (fun _ hk => ⟨hk.1.1.1.1.1.2, ⟨hk.1.1.1.1.2, ⟨hk.1.1.1.2, ⟨hk.1.1.2, ⟨hk.1.2, ⟨hk.2, ⟨hk.1.1.1.1.1.1.1, ⟨hk.1.1.1.1.1.1.2.1, ⟨hk.1.1.1.1.1.1.2.2.1, ⟨hk.1.1.1.1.1.1.2.2.2.1, ⟨hk.1.1.1.1.1.1.2.2.2.2.1, ⟨hk.1.1.1.1.1.1.2.2.2.2.2.1, hk.1.1.1.1.1.1.2.2.2.2.2.2⟩⟩⟩⟩⟩⟩⟩⟩⟩⟩⟩⟩)), (by (with_reducible repeat (first | apply Kd.R_alloc | apply Kd.R_drewN | apply Kd.R_drew)); exact Kd.R_mono HO_380001.out (fun _ hk => ⟨hk.1.1.1.1.1.2, ⟨hk.1.1.1.1.2, ⟨hk.1.1.1.2, ⟨hk.1.1.2, ⟨hk.1.2, ⟨hk.2, ⟨hk.1.1.1.1.1.1.1, ⟨hk.1.1.1.1.1.1.2.1, ⟨hk.1.1.1.1.1.1.2.2.1, ⟨hk.1.1.1.1.1.1.2.2.2.1, ⟨hk.1.1.1.1.1.1.2.2.2.2.1, ⟨hk.1.1.1.1.1.1.2.2.2.2.2.1, hk.1.1.1.1.1.1.2.2.2.2.2.2⟩⟩⟩⟩⟩⟩⟩⟩⟩⟩⟩⟩)), (by (with_reducible repeat (first | apply Kd.R_alloc | apply Kd.R_drewN | apply Kd.R_drew)); exact Kd.R_mono HO_387000.out (fun _ hk => ⟨hk.1.1.1.1.1.2, ⟨hk.1.1.1.1.2, ⟨hk.1.1.1.2, ⟨hk.1.1.2, ⟨hk.1.2, ⟨hk.2, ⟨hk.1.1.1.1.1.1.1, ⟨hk.1.1.1.1.1.1.2.1, ⟨hk.1.1.1.1.1.1.2.2.1, ⟨hk.1.1.1.1.1.1.2.2.2.1, ⟨hk.1.1.1.1.1.1.2.2.2.2.1, ⟨hk.1.1.1.1.1.1.2.2.2.2.2.1, hk.1.1.1.1.1.1.2.2.2.2.2.2⟩⟩⟩⟩⟩⟩⟩⟩⟩⟩⟩⟩)), (by (with_reducible repeat (first | apply Kd.R_alloc | apply Kd.R_drewN | apply Kd.R_drew)); exact Kd.R_mono HO_387001.out (fun _ hk => ⟨hk.1.1.1.1.1.2, ⟨hk.1.1.1.1.2, ⟨hk.1.1.1.2, ⟨hk.1.1.2, ⟨hk.1.2, ⟨hk.2, ⟨hk.1.1.1.1.1.1.1, ⟨hk.1.1.1.1.1.1.2.1, ⟨hk.1.1.1.1.1.1.2.2.1, ⟨hk.1.1.1.1.1.1.2.2.2.1, ⟨hk.1.1.1.1.1.1.2.2.2.2.1, ⟨hk.1.1.1.1.1.1.2.2.2.2.2.1, hk.1.1.1.1.1.1.2.2.2.2.2.2⟩⟩⟩⟩⟩⟩⟩⟩⟩⟩⟩⟩)), (by (with_reducible repeat (first | apply Kd.R_alloc | apply Kd.R_drewN | apply Kd.R_drew)); exact Kd.R_mono HO_394000.out (fun _ hk => ⟨hk.1.1.1.1.1.2, ⟨hk.1.1.1.1.2, ⟨hk.1.1.1.2, ⟨hk.1.1.2, ⟨hk.1.2, ⟨hk.2, ⟨hk.1.1.1.1.1.1.1, ⟨hk.1.1.1.1.1.1.2.1, ⟨hk.1.1.1.1.1.1.2.2.1, ⟨hk.1.1.1.1.1.1.2.2.2.1, ⟨hk.1.1.1.1.1.1.2.2.2.2.1, ⟨hk.1.1.1.1.1.1.2.2.2.2.2.1, hk.1.1.1.1.1.1.2.2.2.2.2.2⟩⟩⟩⟩⟩⟩⟩⟩⟩⟩⟩⟩)), (by (with_reducible repeat (first | apply Kd.R_alloc | apply Kd.R_drewN | apply Kd.R_drew)); exact Kd.R_mono HO_394001.out (fun _ hk => ⟨hk.1.1.1.1.1.2, ⟨hk.1.1.1.1.2, ⟨hk.1.1.1.2, ⟨hk.1.1.2, ⟨hk.1.2, ⟨hk.2, ⟨hk.1.1.1.1.1.1.1, ⟨hk.1.1.1.1.1.1.2.1, ⟨hk.1.1.1.1.1.1.2.2.1, ⟨hk.1.1.1.1.1.1.2.2.2.1, ⟨hk.1.1.1.1.1.1.2.2.2.2.1, ⟨hk.1.1.1.1.1.1.2.2.2.2.2.1, hk.1.1.1.1.1.1.2.2.2.2.2.2⟩⟩⟩⟩⟩⟩⟩⟩⟩⟩⟩⟩)), (by (with_reducible repeat (first | apply Kd.R_alloc | apply Kd.R_drewN | apply Kd.R_drew)); exact Kd.R_mono HO_402000.out (fun _ hk => ⟨hk.1.1.1.1.1.2, ⟨hk.1.1.1.1.2, ⟨hk.1.1.1.2, ⟨hk.1.1.2, ⟨hk.1.2, ⟨hk.2, ⟨hk.1.1.1.1.1.1.1, ⟨hk.1.1.1.1.1.1.2.1, ⟨hk.1.1.1.1.1.1.2.2.1, ⟨hk.1.1.1.1.1.1.2.2.2.1, ⟨hk.1.1.1.1.1.1.2.2.2.2.1, ⟨hk.1.1.1.1.1.1.2.2.2.2.2.1, hk.1.1.1.1.1.1.2.2.2.2.2.2⟩⟩⟩⟩⟩⟩⟩⟩⟩⟩⟩⟩)), (by (with_reducible repeat (first | apply Kd.R_alloc | apply Kd.R_drewN | apply Kd.R_drew)); exact Kd.R_mono HO_402001.out (fun _ hk => ⟨hk.1.1.1.1.1.2, ⟨hk.1.1.1.1.2, ⟨hk.1.1.1.2, ⟨hk.1.1.2, ⟨hk.1.2, ⟨hk.2, ⟨hk.1.1.1.1.1.1.1, ⟨hk.1.1.1.1.1.1.2.1, ⟨hk.1.1.1.1.1.1.2.2.1, ⟨hk.1.1.1.1.1.1.2.2.2.1, ⟨hk.1.1.1.1.1.1.2.2.2.2.1, ⟨hk.1.1.1.1.1.1.2.2.2.2.2.1, hk.1.1.1.1.1.1.2.2.2.2.2.2⟩⟩⟩⟩⟩⟩⟩⟩⟩⟩⟩⟩)), (kU BK356.out), (kU BK357.out), (kU BK379.out), (kU BK386.out), (kU BK393.out), (kU BK401.out), (kU BK447.out), GW447.out, GE447.out, NB356_447.out, NB447_356.out, NB357_447.out, NB447_357.out, NB379_447.out, NB447_379.out, NB386_447.out, NB447_386.out, NB393_447.out, NB447_393.out, NB401_447.out, NB447_401.out, (by repeat (first | (with_reducible first | exact HB.out | apply below_alloc | apply pw_below_drewN | apply below_drew1 | refine below_set ?_ GE356.out | refine below_set ?_ GE357.out | refine below_set ?_ GE379.out | refine below_set ?_ GE386.out | refine below_set ?_ GE393.out | refine below_set ?_ GE401.out | refine below_set ?_ GE447.out) | exact HB.out))⟩)
                ·
                 skip
                 refine box_step ?hg (N := 15) ?hd (cs := #[.slice none 0 0, .slice none 0 0]) (t := 26) ?hr ?_; (case hd => rfl); (case hg => rfl); (case hr => first | (go_simp; done) | (go_simp; rfl))
                 intro gb447 hg w162 hbox hb
                 replace HO_380000 := Aside0.mk (Kd.R_below (RU HO_380000.out) hb)
                 replace HO_380001 := Aside0.mk (Kd.R_below (RU HO_380001.out) hb)
                 replace HO_387000 := Aside0.mk (Kd.R_below (RU HO_387000.out) hb)
                 replace HO_387001 := Aside0.mk (Kd.R_below (RU HO_387001.out) hb)
                 replace HO_394000 := Aside0.mk (Kd.R_below (RU HO_394000.out) hb)
                 replace HO_394001 := Aside0.mk (Kd.R_below (RU HO_394001.out) hb)
                 replace HO_402000 := Aside0.mk (Kd.R_below (RU HO_402000.out) hb)
                 replace HO_402001 := Aside0.mk (Kd.R_below (RU HO_402001.out) hb)
                 replace HO430 := Aside0.mk (Kd.R_below (RU HO430.out) hb)
                 replace HO433 := Aside0.mk (Kd.R_below (RU HO433.out) hb)
                 replace HO436 := Aside0.mk (Kd.R_below (RU HO436.out) hb)
                 replace HO439 := Aside0.mk (Kd.R_below (RU HO439.out) hb)
                 have BK447 := Aside0.mk (hbox)
                 have GW447 := Aside0.mk ((by rw [hg]; exact (below_size (by repeat (first | (with_reducible first | exact HB.out | apply below_alloc | apply pw_below_drewN | apply below_drew1 | refine below_set ?_ GE356.out | refine below_set ?_ GE357.out | refine below_set ?_ GE379.out | refine below_set ?_ GE386.out | refine below_set ?_ GE393.out | refine below_set ?_ GE401.out) | exact HB.out))) : w.heap.size ≤ gb447))
                 have GE447 := Aside0.mk ((by rw [hg]; exact (below_size (by repeat (first | (with_reducible first | exact HB.out | apply below_alloc | apply pw_below_drewN | apply below_drew1 | refine below_set ?_ GE356.out | refine below_set ?_ GE357.out | refine below_set ?_ GE379.out | refine below_set ?_ GE386.out | refine below_set ?_ GE393.out | refine below_set ?_ GE401.out) | exact HB.out))) : w.heap.size ≤ gb447))
                 replace HB := Aside0.mk (below_step (by repeat (first | (with_reducible first | exact HB.out | apply below_alloc | apply pw_below_drewN | apply below_drew1 | refine below_set ?_ GE356.out | refine below_set ?_ GE357.out | refine below_set ?_ GE379.out | refine below_set ?_ GE386.out | refine below_set ?_ GE393.out | refine below_set ?_ GE401.out) | exact HB.out)) hb)
                 have NB356_447 := Aside0.mk ((by rw [hg]; exact Nat.ne_of_lt (blk_lt (g := gb356) (o := .cells #[.slice A0_0 l0_0.length c0_0, .slice A0_1 l0_1.length c0_1] 24 (0, 0)) (kU BK356.out)) : gb356 ≠ gb447))
                 have NB447_356 := Aside0.mk ((by rw [hg]; exact Nat.ne_of_gt (blk_lt (g := gb356) (o := .cells #[.slice A0_0 l0_0.length c0_0, .slice A0_1 l0_1.length c0_1] 24 (0, 0)) (kU BK356.out)) : gb447 ≠ gb356))
                 replace BK356 := Aside0.mk (blk_below (g := gb356) (o := .cells #[.slice A0_0 l0_0.length c0_0, .slice A0_1 l0_1.length c0_1] 24 (0, 0)) (kU BK356.out) hb)
                 have NB357_447 := Aside0.mk ((by rw [hg]; exact Nat.ne_of_lt (blk_lt (g := gb357) (o := .cells #[.slice A1_0 l1_0.length c1_0, .slice A1_1 l1_1.length c1_1] 24 (0, 0)) (kU BK357.out)) : gb357 ≠ gb447))
                 have NB447_357 := Aside0.mk ((by rw [hg]; exact Nat.ne_of_gt (blk_lt (g := gb357) (o := .cells #[.slice A1_0 l1_0.length c1_0, .slice A1_1 l1_1.length c1_1] 24 (0, 0)) (kU BK357.out)) : gb447 ≠ gb357))
                 replace BK357 := Aside0.mk (blk_below (g := gb357) (o := .cells #[.slice A1_0 l1_0.length c1_0, .slice A1_1 l1_1.length c1_1] 24 (0, 0)) (kU BK357.out) hb)
                 have NB379_447 := Aside0.mk ((by rw [hg]; exact Nat.ne_of_lt (blk_lt (g := gb379) (o := .cells #[.slice Ao43 t372.length co43, .slice Ao45 t375.length co45] 26 (0, 0)) (kU BK379.out)) : gb379 ≠ gb447))
                 have NB447_379 := Aside0.mk ((by rw [hg]; exact Nat.ne_of_gt (blk_lt (g := gb379) (o := .cells #[.slice Ao43 t372.length co43, .slice Ao45 t375.length co45] 26 (0, 0)) (kU BK379.out)) : gb447 ≠ gb379))
                 replace BK379 := Aside0.mk (blk_below (g := gb379) (o := .cells #[.slice Ao43 t372.length co43, .slice Ao45 t375.length co45] 26 (0, 0)) (kU BK379.out) hb)
                 have NB386_447 := Aside0.mk ((by rw [hg]; exact Nat.ne_of_lt (blk_lt (g := gb386) (o := .cells #[.slice Ao51 t418.length co51, .slice Ao56 t419.length co56] 26 (0, 0)) (kU BK386.out)) : gb386 ≠ gb447))
                 have NB447_386 := Aside0.mk ((by rw [hg]; exact Nat.ne_of_gt (blk_lt (g := gb386) (o := .cells #[.slice Ao51 t418.length co51, .slice Ao56 t419.length co56] 26 (0, 0)) (kU BK386.out)) : gb447 ≠ gb386))
                 replace BK386 := Aside0.mk (blk_below (g := gb386) (o := .cells #[.slice Ao51 t418.length co51, .slice Ao56 t419.length co56] 26 (0, 0)) (kU BK386.out) hb)
                 have NB393_447 := Aside0.mk ((by rw [hg]; exact Nat.ne_of_lt (blk_lt (g := gb393) (o := .cells #[.slice Ao61 t421.length co61, .slice Ao67 t422.length co67] 26 (0, 0)) (kU BK393.out)) : gb393 ≠ gb447))
                 have NB447_393 := Aside0.mk ((by rw [hg]; exact Nat.ne_of_gt (blk_lt (g := gb393) (o := .cells #[.slice Ao61 t421.length co61, .slice Ao67 t422.length co67] 26 (0, 0)) (kU BK393.out)) : gb447 ≠ gb393))
                 replace BK393 := Aside0.mk (blk_below (g := gb393) (o := .cells #[.slice Ao61 t421.length co61, .slice Ao67 t422.length co67] 26 (0, 0)) (kU BK393.out) hb)
                 have NB401_447 := Aside0.mk ((by rw [hg]; exact Nat.ne_of_lt (blk_lt (g := gb401) (o := .cells #[.slice Ao71 t394.length co71, .slice Ao78 t397.length co78] 26 (0, 0)) (kU BK401.out)) : gb401 ≠ gb447))
                 have NB447_401 := Aside0.mk ((by rw [hg]; exact Nat.ne_of_gt (blk_lt (g := gb401) (o := .cells #[.slice Ao71 t394.length co71, .slice Ao78 t397.length co78] 26 (0, 0)) (kU BK401.out)) : gb447 ≠ gb401))
                 replace BK401 := Aside0.mk (blk_below (g := gb401) (o := .cells #[.slice Ao71 t394.length co71, .slice Ao78 t397.length co78] 26 (0, 0)) (kU BK401.out) hb)
                 clear hb hbox hg
                 obtain ⟨Ao163, co163, eo163⟩ := Kd.R_slice HO430.out
                 (first | subst eo163 | (injection eo163 with f1_ f2_ f3_; have f4_ := f1_.symm; have f5_ := f3_.symm; clear f1_ f2_ f3_; subst f4_; subst f5_))
                 obtain ⟨Ao164, co164, eo164⟩ := Kd.R_slice HO433.out
                 (first | subst eo164 | (injection eo164 with f1_ f2_ f3_; have f4_ := f1_.symm; have f5_ := f3_.symm; clear f1_ f2_ f3_; subst f4_; subst f5_))
                 obtain ⟨Ao165, co165, eo165⟩ := Kd.R_slice HO436.out
                 (first | subst eo165 | (injection eo165 with f1_ f2_ f3_; have f4_ := f1_.symm; have f5_ := f3_.symm; clear f1_ f2_ f3_; subst f4_; subst f5_))
                 obtain ⟨Ao166, co166, eo166⟩ := Kd.R_slice HO439.out
                 (first | subst eo166 | (injection eo166 with f1_ f2_ f3_; have f4_ := f1_.symm; have f5_ := f3_.symm; clear f1_ f2_ f3_; subst f4_; subst f5_))
                 refine hK.out _ _ ⟨(blk_cell BK356.out 0).trans rfl, (blk_cell BK356.out 1).trans rfl, (blk_cell BK357.out 0).trans rfl, (blk_cell BK357.out 1).trans rfl⟩ (fun hHeld => ?_)
                 clear hK K
                 refine norm_ (a' := ?_) ?_ ?_
                 rotate_left
                 ·
                  show Act.put _ (some 15) _ = _
                  simp only [Act.put, List.setIfInBounds_toArray, List.set_cons_zero, List.set_cons_succ, i64_w, i32_w]
                  rfl
                 refine one_ (i := 4) (N := some 99) #[true, true, true, true, true, false, false, false, true, false, false] rfl rfl (one_of HT_.out (by kernel_rfl)) (by decide) (fun K hK => ?_)
                 refine goes_ Try.func11 (by kernel_rfl) rfl #[.agg #[.slice Ao163 t428.length co163, .slice Ao164 t431.length co164], .agg #[.slice Ao165 t434.length co165, .slice Ao166 t437.length co166]] (by rfl) rfl rfl (by (try simp only [List.map_toArray, List.map_cons, List.map_nil]); first | done | rfl | (simp only [List.length_drop, List.length_take]; rfl)) ?_
                 with_reducible refine (impl_Drop.calls kj101 _ _ t428 _ _ t431 _ _ t434 _ _ t437 t440 t443 t446 _ ?side1 ?side2 ?side3 ?side4 ?side5 ?side6 ?side7 ?side8 A148.out).mono ?_
                 (case side1 => exact cU (Kd.R_reads' HO430.out).2.2)
                 (case side2 => exact (Kd.R_reads' HO430.out).2.1)
                 (case side3 => exact cU (Kd.R_reads' HO433.out).2.2)
                 (case side4 => exact (Kd.R_reads' HO433.out).2.1)
                 (case side5 => exact cU (Kd.R_reads' HO436.out).2.2)
                 (case side6 => exact (Kd.R_reads' HO436.out).2.1)
                 (case side7 => exact cU (Kd.R_reads' HO439.out).2.2)
                 (case side8 => exact (Kd.R_reads' HO439.out).2.1)
                 rintro e w167 ⟨v441, v444, rfl, ho0, ho1, hb⟩
                 refine ⟨_, rfl, ?_⟩
                 have HO442 := Aside0.mk (Kd.R_lower (Kd.R_new' (Kd.R_new' (Kd.R_new' (Kd.R_new' (Kd.R_new' (Kd.R_new' (Kd.R_new' (Kd.R_new' (Kd.R_new' (Kd.R_new' (Kd.R_new' (Kd.R_new' ho0 (Kd.R_lt (RU HO_380000.out))) (Kd.R_lt (RU HO_380001.out))) (Kd.R_lt (RU HO_387000.out))) (Kd.R_lt (RU HO_387001.out))) (Kd.R_lt (RU HO_394000.out))) (Kd.R_lt (RU HO_394001.out))) (Kd.R_lt (RU HO_402000.out))) (Kd.R_lt (RU HO_402001.out))) (Kd.R_lt (RU HO430.out))) (Kd.R_lt (RU HO433.out))) (Kd.R_lt (RU HO436.out))) (Kd.R_lt (RU HO439.out))) (below_size (by repeat (first | (with_reducible first | exact HB.out | apply below_alloc | apply pw_below_drewN | apply below_drew1 | refine below_set ?_ GE356.out | refine below_set ?_ GE357.out | refine below_set ?_ GE379.out | refine below_set ?_ GE386.out | refine below_set ?_ GE393.out | refine below_set ?_ GE401.out | refine below_set ?_ GE447.out) | exact HB.out))))
                 have HO445 := Aside0.mk (Kd.R_lower (Kd.R_new' (Kd.R_new' (Kd.R_new' (Kd.R_new' (Kd.R_new' (Kd.R_new' (Kd.R_new' (Kd.R_new' (Kd.R_new' (Kd.R_new' (Kd.R_new' (Kd.R_new' ho1 (Kd.R_lt (RU HO_380000.out))) (Kd.R_lt (RU HO_380001.out))) (Kd.R_lt (RU HO_387000.out))) (Kd.R_lt (RU HO_387001.out))) (Kd.R_lt (RU HO_394000.out))) (Kd.R_lt (RU HO_394001.out))) (Kd.R_lt (RU HO_402000.out))) (Kd.R_lt (RU HO_402001.out))) (Kd.R_lt (RU HO430.out))) (Kd.R_lt (RU HO433.out))) (Kd.R_lt (RU HO436.out))) (Kd.R_lt (RU HO439.out))) (below_size (by repeat (first | (with_reducible first | exact HB.out | apply below_alloc | apply pw_below_drewN | apply below_drew1 | refine below_set ?_ GE356.out | refine below_set ?_ GE357.out | refine below_set ?_ GE379.out | refine below_set ?_ GE386.out | refine below_set ?_ GE393.out | refine below_set ?_ GE401.out | refine below_set ?_ GE447.out) | exact HB.out))))
                 replace HO_380000 := Aside0.mk (Kd.R_mono (Kd.R_told (Kd.R_told (Kd.R_old (RU HO_380000.out) hb) (Kd.R_base ho0)) (Kd.R_base ho1)) (fun _ h_ => h_.1))
                 replace HO_380001 := Aside0.mk (Kd.R_mono (Kd.R_told (Kd.R_told (Kd.R_old (RU HO_380001.out) hb) (Kd.R_base ho0)) (Kd.R_base ho1)) (fun _ h_ => h_.1))
                 replace HO_387000 := Aside0.mk (Kd.R_mono (Kd.R_told (Kd.R_told (Kd.R_old (RU HO_387000.out) hb) (Kd.R_base ho0)) (Kd.R_base ho1)) (fun _ h_ => h_.1))
                 replace HO_387001 := Aside0.mk (Kd.R_mono (Kd.R_told (Kd.R_told (Kd.R_old (RU HO_387001.out) hb) (Kd.R_base ho0)) (Kd.R_base ho1)) (fun _ h_ => h_.1))
                 replace HO_394000 := Aside0.mk (Kd.R_mono (Kd.R_told (Kd.R_told (Kd.R_old (RU HO_394000.out) hb) (Kd.R_base ho0)) (Kd.R_base ho1)) (fun _ h_ => h_.1))
                 replace HO_394001 := Aside0.mk (Kd.R_mono (Kd.R_told (Kd.R_told (Kd.R_old (RU HO_394001.out) hb) (Kd.R_base ho0)) (Kd.R_base ho1)) (fun _ h_ => h_.1))
                 replace HO_402000 := Aside0.mk (Kd.R_mono (Kd.R_told (Kd.R_told (Kd.R_old (RU HO_402000.out) hb) (Kd.R_base ho0)) (Kd.R_base ho1)) (fun _ h_ => h_.1))
                 replace HO_402001 := Aside0.mk (Kd.R_mono (Kd.R_told (Kd.R_told (Kd.R_old (RU HO_402001.out) hb) (Kd.R_base ho0)) (Kd.R_base ho1)) (fun _ h_ => h_.1))
                 replace HO430 := Aside0.mk (Kd.R_mono (Kd.R_told (Kd.R_told (Kd.R_old (RU HO430.out) hb) (Kd.R_base ho0)) (Kd.R_base ho1)) (fun _ h_ => h_.1))
                 replace HO433 := Aside0.mk (Kd.R_mono (Kd.R_told (Kd.R_told (Kd.R_old (RU HO433.out) hb) (Kd.R_base ho0)) (Kd.R_base ho1)) (fun _ h_ => h_.1))
                 replace HO436 := Aside0.mk (Kd.R_mono (Kd.R_told (Kd.R_told (Kd.R_old (RU HO436.out) hb) (Kd.R_base ho0)) (Kd.R_base ho1)) (fun _ h_ => h_.1))
                 replace HO439 := Aside0.mk (Kd.R_mono (Kd.R_told (Kd.R_told (Kd.R_old (RU HO439.out) hb) (Kd.R_base ho0)) (Kd.R_base ho1)) (fun _ h_ => h_.1))
                 replace BK356 := Aside0.mk (blk_below (g := gb356) (o := .cells #[.slice A0_0 l0_0.length c0_0, .slice A0_1 l0_1.length c0_1] 24 (0, 0)) (kU BK356.out) hb)
                 replace BK357 := Aside0.mk (blk_below (g := gb357) (o := .cells #[.slice A1_0 l1_0.length c1_0, .slice A1_1 l1_1.length c1_1] 24 (0, 0)) (kU BK357.out) hb)
                 replace BK379 := Aside0.mk (blk_below (g := gb379) (o := .cells #[.slice Ao43 t372.length co43, .slice Ao45 t375.length co45] 26 (0, 0)) (kU BK379.out) hb)
                 replace BK386 := Aside0.mk (blk_below (g := gb386) (o := .cells #[.slice Ao51 t418.length co51, .slice Ao56 t419.length co56] 26 (0, 0)) (kU BK386.out) hb)
                 replace BK393 := Aside0.mk (blk_below (g := gb393) (o := .cells #[.slice Ao61 t421.length co61, .slice Ao67 t422.length co67] 26 (0, 0)) (kU BK393.out) hb)
                 replace BK401 := Aside0.mk (blk_below (g := gb401) (o := .cells #[.slice Ao71 t394.length co71, .slice Ao78 t397.length co78] 26 (0, 0)) (kU BK401.out) hb)
                 replace BK447 := Aside0.mk (blk_below (g := gb447) (o := .cells #[.slice none 0 0, .slice none 0 0] 26 (0, 0)) (kU BK447.out) hb)
                 replace HB := Aside0.mk (below_step (by repeat (first | (with_reducible first | exact HB.out | apply below_alloc | apply pw_below_drewN | apply below_drew1 | refine below_set ?_ GE356.out | refine below_set ?_ GE357.out | refine below_set ?_ GE379.out | refine below_set ?_ GE386.out | refine below_set ?_ GE393.out | refine below_set ?_ GE401.out | refine below_set ?_ GE447.out) | exact HB.out)) hb)
                 (try clear hb)
                 (try clear hb2)
                 (try clear hk)
                 (try clear hi)
                 (try clear ho0)
                 (try clear ho1)
                 refine hK.out _ _ ⟨(blk_cell BK356.out 0).trans rfl, (blk_cell BK356.out 1).trans rfl, (blk_cell BK357.out 0).trans rfl, (blk_cell BK357.out 1).trans rfl⟩ (fun hHeld => ?_)
                 clear hK K
                 refine norm_ (a' := ?_) ?_ ?_
                 rotate_left
                 ·
                  show Act.put _ (some 99) _ = _
                  simp only [Act.put, List.setIfInBounds_toArray, List.set_cons_zero, List.set_cons_succ, i64_w, i32_w]
                  rfl
                 refine pure_ (i := 5) (N := some 94) (v := ?_) (a' := ?_) #[true, true, true, true, true, true, false, false, true, false, false] rfl rfl (any_of HT_.out (by kernel_rfl)) (fun _ _ _ h => h) (Or.inl ⟨by rfl, ?_⟩) ?_ ?_
                 rotate_left
                 ·
                  intro w'
                  go_simp
                  with_reducible rfl
                 rotate_left
                 ·
                  simp only [Act.put, List.setIfInBounds_toArray, List.set_cons_zero, List.set_cons_succ, i64_w, i32_w]
                  rfl
                 refine pure_ (i := 6) (N := some 100) (v := ?_) (a' := ?_) #[true, true, true, true, true, true, true, false, true, false, false] rfl rfl (any_of HT_.out (by kernel_rfl)) (fun _ _ _ h => h) (Or.inl ⟨by rfl, ?_⟩) ?_ ?_
                 rotate_left
                 ·
                  intro w'
                  go_simp
                  with_reducible rfl
                 rotate_left
                 ·
                  simp only [Act.put, List.setIfInBounds_toArray, List.set_cons_zero, List.set_cons_succ, i64_w, i32_w]
                  rfl
                 refine pure_ (i := 7) (N := some 101) (v := ?_) (a' := ?_) #[true, true, true, true, true, true, true, true, true, false, false] rfl rfl (any_of HT_.out (by kernel_rfl)) (fun _ _ _ h => h) (Or.inl ⟨by rfl, ?_⟩) ?_ ?_
                 rotate_left
                 ·
                  intro w'
                  go_simp
                  with_reducible rfl
                 rotate_left
                 ·
                  simp only [Act.put, List.setIfInBounds_toArray, List.set_cons_zero, List.set_cons_succ, i64_w, i32_w]
                  rfl
                 exact norm_ (by simp only [putAll, Act.put, List.setIfInBounds_toArray, List.set_cons_zero, List.set_cons_succ]) (hCont (.slice Ao163 t428.length co163, .slice Ao164 t431.length co164, .slice Ao165 t434.length co165, .slice Ao166 t437.length co166, v441, v444, gb447) _ ⟨hHeld, (by (with_reducible repeat (first | apply Kd.R_alloc | apply Kd.R_drewN | apply Kd.R_drew)); exact Kd.R_mono HO430.out (fun _ hk => ⟨hk.1.1.1.1.1.1.1.1.1.1.1.1, ⟨hk.1.1.1.2, ⟨hk.1.1.2, ⟨hk.1.2, ⟨hk.2, ⟨hk.1.1.1.1.1.1.1.1.1.1.1.2, ⟨hk.1.1.1.1.1.1.1.1.1.1.2, ⟨hk.1.1.1.1.1.1.1.1.1.2, ⟨hk.1.1.1.1.1.1.1.1.2, ⟨hk.1.1.1.1.1.1.1.2, ⟨hk.1.1.1.1.1.1.2, ⟨hk.1.1.1.1.1.2, hk.1.1.1.1.2⟩⟩⟩⟩⟩⟩⟩⟩⟩⟩⟩⟩)), (by (with_reducible repeat (first | apply Kd.R_alloc | apply Kd.R_drewN | apply Kd.R_drew)); exact Kd.R_mono HO433.out (fun _ hk => ⟨hk.1.1.1.1.1.1.1.1.1.1.1.1, ⟨hk.1.1.1.2, ⟨hk.1.1.2, ⟨hk.1.2, ⟨hk.2, ⟨hk.1.1.1.1.1.1.1.1.1.1.1.2, ⟨hk.1.1.1.1.1.1.1.1.1.1.2, ⟨hk.1.1.1.1.1.1.1.1.1.2, ⟨hk.1.1.1.1.1.1.1.1.2, ⟨hk.1.1.1.1.1.1.1.2, ⟨hk.1.1.1.1.1.1.2, ⟨hk.1.1.1.1.1.2, hk.1.1.1.1.2⟩⟩⟩⟩⟩⟩⟩⟩⟩⟩⟩⟩)), (by (with_reducible repeat (first | apply Kd.R_alloc | apply Kd.R_drewN | apply Kd.R_drew)); exact Kd.R_mono HO436.out (fun _ hk => ⟨hk.1.1.1.2, ⟨hk.1.1.2, ⟨hk.1.1.1.1.1.1.1.1.1.1.1.1, ⟨hk.1.2, ⟨hk.2, ⟨hk.1.1.1.1.1.1.1.1.1.1.1.2, ⟨hk.1.1.1.1.1.1.1.1.1.1.2, ⟨hk.1.1.1.1.1.1.1.1.1.2, ⟨hk.1.1.1.1.1.1.1.1.2, ⟨hk.1.1.1.1.1.1.1.2, ⟨hk.1.1.1.1.1.1.2, ⟨hk.1.1.1.1.1.2, hk.1.1.1.1.2⟩⟩⟩⟩⟩⟩⟩⟩⟩⟩⟩⟩)), (by (with_reducible repeat (first | apply Kd.R_alloc | apply Kd.R_drewN | apply Kd.R_drew)); exact Kd.R_mono HO439.out (fun _ hk => ⟨hk.1.1.1.2, ⟨hk.1.1.2, ⟨hk.1.1.1.1.1.1.1.1.1.1.1.1, ⟨hk.1.2, ⟨hk.2, ⟨hk.1.1.1.1.1.1.1.1.1.1.1.2, ⟨hk.1.1.1.1.1.1.1.1.1.1.2, ⟨hk.1.1.1.1.1.1.1.1.1.2, ⟨hk.1.1.1.1.1.1.1.1.2, ⟨hk.1.1.1.1.1.1.1.2, ⟨hk.1.1.1.1.1.1.2, ⟨hk.1.1.1.1.1.2, hk.1.1.1.1.2⟩⟩⟩⟩⟩⟩⟩⟩⟩⟩⟩⟩)), (by (with_reducible repeat (first | apply Kd.R_alloc | apply Kd.R_drewN | apply Kd.R_drew)); exact Kd.R_mono HO442.out (fun _ hk => ⟨hk.1.1.1.2, ⟨hk.1.1.2, ⟨hk.1.2, ⟨hk.2, ⟨hk.1.1.1.1.1.1.1.1.1.1.1.1, ⟨hk.1.1.1.1.1.1.1.1.1.1.1.2, ⟨hk.1.1.1.1.1.1.1.1.1.1.2, ⟨hk.1.1.1.1.1.1.1.1.1.2, ⟨hk.1.1.1.1.1.1.1.1.2, ⟨hk.1.1.1.1.1.1.1.2, ⟨hk.1.1.1.1.1.1.2, ⟨hk.1.1.1.1.1.2, hk.1.1.1.1.2⟩⟩⟩⟩⟩⟩⟩⟩⟩⟩⟩⟩)), (by (with_reducible repeat (first | apply Kd.R_alloc | apply Kd.R_drewN | apply Kd.R_drew)); exact Kd.R_mono HO445.out (fun _ hk => ⟨hk.1.1.1.2, ⟨hk.1.1.2, ⟨hk.1.2, ⟨hk.2, ⟨hk.1.1.1.1.1.1.1.1.1.1.1.1, ⟨hk.1.1.1.1.1.1.1.1.1.1.1.2, ⟨hk.1.1.1.1.1.1.1.1.1.1.2, ⟨hk.1.1.1.1.1.1.1.1.1.2, ⟨hk.1.1.1.1.1.1.1.1.2, ⟨hk.1.1.1.1.1.1.1.2, ⟨hk.1.1.1.1.1.1.2, ⟨hk.1.1.1.1.1.2, hk.1.1.1.1.2⟩⟩⟩⟩⟩⟩⟩⟩⟩⟩⟩⟩)), (by (with_reducible repeat (first | apply Kd.R_alloc | apply Kd.R_drewN | apply Kd.R_drew)); exact Kd.R_mono HO_380000.out (fun _ hk => ⟨hk.1.1.1.1.1.2, ⟨hk.1.1.1.1.2, ⟨hk.1.1.1.2, ⟨hk.1.1.2, ⟨hk.1.2, ⟨hk.2, ⟨hk.1.1.1.1.1.1.1, ⟨hk.1.1.1.1.1.1.2.1, ⟨hk.1.1.1.1.1.1.2.2.1, ⟨hk.1.1.1.1.1.1.2.2.2.1, ⟨hk.1.1.1.1.1.1.2.2.2.2.1, ⟨hk.1.1.1.1.1.1.2.2.2.2.2.1, hk.1.1.1.1.1.1.2.2.2.2.2.2⟩⟩⟩⟩⟩⟩⟩⟩⟩⟩⟩⟩)), (by (with_reducible repeat (first | apply Kd.R_alloc | apply Kd.R_drewN | apply Kd.R_drew)); exact Kd.R_mono HO_380001.out (fun _ hk => ⟨hk.1.1.1.1.1.2, ⟨hk.1.1.1.1.2, ⟨hk.1.1.1.2, ⟨hk.1.1.2, ⟨hk.1.2, ⟨hk.2, ⟨hk.1.1.1.1.1.1.1, ⟨hk.1.1.1.1.1.1.2.1, ⟨hk.1.1.1.1.1.1.2.2.1, ⟨hk.1.1.1.1.1.1.2.2.2.1, ⟨hk.1.1.1.1.1.1.2.2.2.2.1, ⟨hk.1.1.1.1.1.1.2.2.2.2.2.1, hk.1.1.1.1.1.1.2.2.2.2.2.2⟩⟩⟩⟩⟩⟩⟩⟩⟩⟩⟩⟩)), (by (with_reducible repeat (first | apply Kd.R_alloc | apply Kd.R_drewN | apply Kd.R_drew)); exact Kd.R_mono HO_387000.out (fun _ hk => ⟨hk.1.1.1.1.1.2, ⟨hk.1.1.1.1.2, ⟨hk.1.1.1.2, ⟨hk.1.1.2, ⟨hk.1.2, ⟨hk.2, ⟨hk.1.1.1.1.1.1.1, ⟨hk.1.1.1.1.1.1.2.1, ⟨hk.1.1.1.1.1.1.2.2.1, ⟨hk.1.1.1.1.1.1.2.2.2.1, ⟨hk.1.1.1.1.1.1.2.2.2.2.1, ⟨hk.1.1.1.1.1.1.2.2.2.2.2.1, hk.1.1.1.1.1.1.2.2.2.2.2.2⟩⟩⟩⟩⟩⟩⟩⟩⟩⟩⟩⟩)), (by (with_reducible repeat (first | apply Kd.R_alloc | apply Kd.R_drewN | apply Kd.R_drew)); exact Kd.R_mono HO_387001.out (fun _ hk => ⟨hk.1.1.1.1.1.2, ⟨hk.1.1.1.1.2, ⟨hk.1.1.1.2, ⟨hk.1.1.2, ⟨hk.1.2, ⟨hk.2, ⟨hk.1.1.1.1.1.1.1, ⟨hk.1.1.1.1.1.1.2.1, ⟨hk.1.1.1.1.1.1.2.2.1, ⟨hk.1.1.1.1.1.1.2.2.2.1, ⟨hk.1.1.1.1.1.1.2.2.2.2.1, ⟨hk.1.1.1.1.1.1.2.2.2.2.2.1, hk.1.1.1.1.1.1.2.2.2.2.2.2⟩⟩⟩⟩⟩⟩⟩⟩⟩⟩⟩⟩)), (by (with_reducible repeat (first | apply Kd.R_alloc | apply Kd.R_drewN | apply Kd.R_drew)); exact Kd.R_mono HO_394000.out (fun _ hk => ⟨hk.1.1.1.1.1.2, ⟨hk.1.1.1.1.2, ⟨hk.1.1.1.2, ⟨hk.1.1.2, ⟨hk.1.2, ⟨hk.2, ⟨hk.1.1.1.1.1.1.1, ⟨hk.1.1.1.1.1.1.2.1, ⟨hk.1.1.1.1.1.1.2.2.1, ⟨hk.1.1.1.1.1.1.2.2.2.1, ⟨hk.1.1.1.1.1.1.2.2.2.2.1, ⟨hk.1.1.1.1.1.1.2.2.2.2.2.1, hk.1.1.1.1.1.1.2.2.2.2.2.2⟩⟩⟩⟩⟩⟩⟩⟩⟩⟩⟩⟩)), (by (with_reducible repeat (first | apply Kd.R_alloc | apply Kd.R_drewN | apply Kd.R_drew)); exact Kd.R_mono HO_394001.out (fun _ hk => ⟨hk.1.1.1.1.1.2, ⟨hk.1.1.1.1.2, ⟨hk.1.1.1.2, ⟨hk.1.1.2, ⟨hk.1.2, ⟨hk.2, ⟨hk.1.1.1.1.1.1.1, ⟨hk.1.1.1.1.1.1.2.1, ⟨hk.1.1.1.1.1.1.2.2.1, ⟨hk.1.1.1.1.1.1.2.2.2.1, ⟨hk.1.1.1.1.1.1.2.2.2.2.1, ⟨hk.1.1.1.1.1.1.2.2.2.2.2.1, hk.1.1.1.1.1.1.2.2.2.2.2.2⟩⟩⟩⟩⟩⟩⟩⟩⟩⟩⟩⟩)), (by (with_reducible repeat (first | apply Kd.R_alloc | apply Kd.R_drewN | apply Kd.R_drew)); exact Kd.R_mono HO_402000.out (fun _ hk => ⟨hk.1.1.1.1.1.2, ⟨hk.1.1.1.1.2, ⟨hk.1.1.1.2, ⟨hk.1.1.2, ⟨hk.1.2, ⟨hk.2, ⟨hk.1.1.1.1.1.1.1, ⟨hk.1.1.1.1.1.1.2.1, ⟨hk.1.1.1.1.1.1.2.2.1, ⟨hk.1.1.1.1.1.1.2.2.2.1, ⟨hk.1.1.1.1.1.1.2.2.2.2.1, ⟨hk.1.1.1.1.1.1.2.2.2.2.2.1, hk.1.1.1.1.1.1.2.2.2.2.2.2⟩⟩⟩⟩⟩⟩⟩⟩⟩⟩⟩⟩)), (by (with_reducible repeat (first | apply Kd.R_alloc | apply Kd.R_drewN | apply Kd.R_drew)); exact Kd.R_mono HO_402001.out (fun _ hk => ⟨hk.1.1.1.1.1.2, ⟨hk.1.1.1.1.2, ⟨hk.1.1.1.2, ⟨hk.1.1.2, ⟨hk.1.2, ⟨hk.2, ⟨hk.1.1.1.1.1.1.1, ⟨hk.1.1.1.1.1.1.2.1, ⟨hk.1.1.1.1.1.1.2.2.1, ⟨hk.1.1.1.1.1.1.2.2.2.1, ⟨hk.1.1.1.1.1.1.2.2.2.2.1, ⟨hk.1.1.1.1.1.1.2.2.2.2.2.1, hk.1.1.1.1.1.1.2.2.2.2.2.2⟩⟩⟩⟩⟩⟩⟩⟩⟩⟩⟩⟩)), (kU BK356.out), (kU BK357.out), (kU BK379.out), (kU BK386.out), (kU BK393.out), (kU BK401.out), (kU BK447.out), GW447.out, GE447.out, NB356_447.out, NB447_356.out, NB357_447.out, NB447_357.out, NB379_447.out, NB447_379.out, NB386_447.out, NB447_386.out, NB393_447.out, NB447_393.out, NB401_447.out, NB447_401.out, (by repeat (first | (with_reducible first | exact HB.out | apply below_alloc | apply pw_below_drewN | apply below_drew1 | refine below_set ?_ GE356.out | refine below_set ?_ GE357.out | refine below_set ?_ GE379.out | refine below_set ?_ GE386.out | refine below_set ?_ GE393.out | refine below_set ?_ GE401.out | refine below_set ?_ GE447.out) | exact HB.out))⟩)
               ·
                skip
                refine box_step ?hg (N := 15) ?hd (cs := #[.slice none 0 0, .slice none 0 0]) (t := 26) ?hr ?_; (case hd => rfl); (case hg => rfl); (case hr => first | (go_simp; done) | (go_simp; rfl))
                intro gb447 hg w161 hbox hb
                replace HO_380000 := Aside0.mk (Kd.R_below (RU HO_380000.out) hb)
                replace HO_380001 := Aside0.mk (Kd.R_below (RU HO_380001.out) hb)
                replace HO_387000 := Aside0.mk (Kd.R_below (RU HO_387000.out) hb)
                replace HO_387001 := Aside0.mk (Kd.R_below (RU HO_387001.out) hb)
                replace HO_394000 := Aside0.mk (Kd.R_below (RU HO_394000.out) hb)
                replace HO_394001 := Aside0.mk (Kd.R_below (RU HO_394001.out) hb)
                replace HO_402000 := Aside0.mk (Kd.R_below (RU HO_402000.out) hb)
                replace HO_402001 := Aside0.mk (Kd.R_below (RU HO_402001.out) hb)
                replace HO430 := Aside0.mk (Kd.R_below (RU HO430.out) hb)
                replace HO433 := Aside0.mk (Kd.R_below (RU HO433.out) hb)
                have BK447 := Aside0.mk (hbox)
                have GW447 := Aside0.mk ((by rw [hg]; exact (below_size (by repeat (first | (with_reducible first | exact HB.out | apply below_alloc | apply pw_below_drewN | apply below_drew1 | refine below_set ?_ GE356.out | refine below_set ?_ GE357.out | refine below_set ?_ GE379.out | refine below_set ?_ GE386.out | refine below_set ?_ GE393.out | refine below_set ?_ GE401.out) | exact HB.out))) : w.heap.size ≤ gb447))
                have GE447 := Aside0.mk ((by rw [hg]; exact (below_size (by repeat (first | (with_reducible first | exact HB.out | apply below_alloc | apply pw_below_drewN | apply below_drew1 | refine below_set ?_ GE356.out | refine below_set ?_ GE357.out | refine below_set ?_ GE379.out | refine below_set ?_ GE386.out | refine below_set ?_ GE393.out | refine below_set ?_ GE401.out) | exact HB.out))) : w.heap.size ≤ gb447))
                replace HB := Aside0.mk (below_step (by repeat (first | (with_reducible first | exact HB.out | apply below_alloc | apply pw_below_drewN | apply below_drew1 | refine below_set ?_ GE356.out | refine below_set ?_ GE357.out | refine below_set ?_ GE379.out | refine below_set ?_ GE386.out | refine below_set ?_ GE393.out | refine below_set ?_ GE401.out) | exact HB.out)) hb)
                have NB356_447 := Aside0.mk ((by rw [hg]; exact Nat.ne_of_lt (blk_lt (g := gb356) (o := .cells #[.slice A0_0 l0_0.length c0_0, .slice A0_1 l0_1.length c0_1] 24 (0, 0)) (kU BK356.out)) : gb356 ≠ gb447))
                have NB447_356 := Aside0.mk ((by rw [hg]; exact Nat.ne_of_gt (blk_lt (g := gb356) (o := .cells #[.slice A0_0 l0_0.length c0_0, .slice A0_1 l0_1.length c0_1] 24 (0, 0)) (kU BK356.out)) : gb447 ≠ gb356))
                replace BK356 := Aside0.mk (blk_below (g := gb356) (o := .cells #[.slice A0_0 l0_0.length c0_0, .slice A0_1 l0_1.length c0_1] 24 (0, 0)) (kU BK356.out) hb)
                have NB357_447 := Aside0.mk ((by rw [hg]; exact Nat.ne_of_lt (blk_lt (g := gb357) (o := .cells #[.slice A1_0 l1_0.length c1_0, .slice A1_1 l1_1.length c1_1] 24 (0, 0)) (kU BK357.out)) : gb357 ≠ gb447))
                have NB447_357 := Aside0.mk ((by rw [hg]; exact Nat.ne_of_gt (blk_lt (g := gb357) (o := .cells #[.slice A1_0 l1_0.length c1_0, .slice A1_1 l1_1.length c1_1] 24 (0, 0)) (kU BK357.out)) : gb447 ≠ gb357))
                replace BK357 := Aside0.mk (blk_below (g := gb357) (o := .cells #[.slice A1_0 l1_0.length c1_0, .slice A1_1 l1_1.length c1_1] 24 (0, 0)) (kU BK357.out) hb)
                have NB379_447 := Aside0.mk ((by rw [hg]; exact Nat.ne_of_lt (blk_lt (g := gb379) (o := .cells #[.slice Ao43 t372.length co43, .slice Ao45 t375.length co45] 26 (0, 0)) (kU BK379.out)) : gb379 ≠ gb447))
                have NB447_379 := Aside0.mk ((by rw [hg]; exact Nat.ne_of_gt (blk_lt (g := gb379) (o := .cells #[.slice Ao43 t372.length co43, .slice Ao45 t375.length co45] 26 (0, 0)) (kU BK379.out)) : gb447 ≠ gb379))
                replace BK379 := Aside0.mk (blk_below (g := gb379) (o := .cells #[.slice Ao43 t372.length co43, .slice Ao45 t375.length co45] 26 (0, 0)) (kU BK379.out) hb)
                have NB386_447 := Aside0.mk ((by rw [hg]; exact Nat.ne_of_lt (blk_lt (g := gb386) (o := .cells #[.slice Ao51 t418.length co51, .slice Ao56 t419.length co56] 26 (0, 0)) (kU BK386.out)) : gb386 ≠ gb447))
                have NB447_386 := Aside0.mk ((by rw [hg]; exact Nat.ne_of_gt (blk_lt (g := gb386) (o := .cells #[.slice Ao51 t418.length co51, .slice Ao56 t419.length co56] 26 (0, 0)) (kU BK386.out)) : gb447 ≠ gb386))
                replace BK386 := Aside0.mk (blk_below (g := gb386) (o := .cells #[.slice Ao51 t418.length co51, .slice Ao56 t419.length co56] 26 (0, 0)) (kU BK386.out) hb)
                have NB393_447 := Aside0.mk ((by rw [hg]; exact Nat.ne_of_lt (blk_lt (g := gb393) (o := .cells #[.slice Ao61 t421.length co61, .slice Ao67 t422.length co67] 26 (0, 0)) (kU BK393.out)) : gb393 ≠ gb447))
                have NB447_393 := Aside0.mk ((by rw [hg]; exact Nat.ne_of_gt (blk_lt (g := gb393) (o := .cells #[.slice Ao61 t421.length co61, .slice Ao67 t422.length co67] 26 (0, 0)) (kU BK393.out)) : gb447 ≠ gb393))
                replace BK393 := Aside0.mk (blk_below (g := gb393) (o := .cells #[.slice Ao61 t421.length co61, .slice Ao67 t422.length co67] 26 (0, 0)) (kU BK393.out) hb)
                have NB401_447 := Aside0.mk ((by rw [hg]; exact Nat.ne_of_lt (blk_lt (g := gb401) (o := .cells #[.slice Ao71 t394.length co71, .slice Ao78 t397.length co78] 26 (0, 0)) (kU BK401.out)) : gb401 ≠ gb447))
                have NB447_401 := Aside0.mk ((by rw [hg]; exact Nat.ne_of_gt (blk_lt (g := gb401) (o := .cells #[.slice Ao71 t394.length co71, .slice Ao78 t397.length co78] 26 (0, 0)) (kU BK401.out)) : gb447 ≠ gb401))
                replace BK401 := Aside0.mk (blk_below (g := gb401) (o := .cells #[.slice Ao71 t394.length co71, .slice Ao78 t397.length co78] 26 (0, 0)) (kU BK401.out) hb)
                clear hb hbox hg
                refine hK.out _ _ ⟨(blk_cell BK356.out 0).trans rfl, (blk_cell BK356.out 1).trans rfl, (blk_cell BK357.out 0).trans rfl, (blk_cell BK357.out 1).trans rfl⟩ (fun hHeld => ?_)
                clear hK K
                refine norm_ (a' := ?_) ?_ ?_
                rotate_left
                ·
                 show Act.put _ (some 15) _ = _
                 simp only [Act.put, List.setIfInBounds_toArray, List.set_cons_zero, List.set_cons_succ, i64_w, i32_w]
                 rfl
                refine one_ (i := 3) (N := some 98) #[true, true, true, true, false, false, false, false, true, false, false] rfl rfl (one_of HT_.out (by kernel_rfl)) (by decide) (fun K hK => ?_)
                refine goes_ Try.func10 (by kernel_rfl) rfl #[.agg #[.slice A1_0 l1_0.length c1_0, .slice A1_1 l1_1.length c1_1]] (by rfl) rfl rfl (by (try simp only [List.map_toArray, List.map_cons, List.map_nil]); first | done | rfl | (simp only [List.length_drop, List.length_take]; rfl)) ?_
                with_reducible refine (laws_toArray.calls kj101 _ _ l1_0 _ _ l1_1 t434 t437 _ ?side1 ?side2 ?side3 ?side4 A147.out).mono ?_
                (case side1 => exact cU (Kd.C_below HR1_0.out HB.out))
                (case side2 => exact HC1_0.out)
                (case side3 => exact cU (Kd.C_below HR1_1.out HB.out))
                (case side4 => exact HC1_1.out)
                rintro e w162 ⟨v435, v438, rfl, ho0, ho1, hb⟩
                refine ⟨_, rfl, ?_⟩
                have HO436 := Aside0.mk (Kd.R_lower (Kd.R_new' (Kd.R_new' (Kd.R_new' (Kd.R_new' (Kd.R_new' (Kd.R_new' (Kd.R_new' (Kd.R_new' (Kd.R_new' (Kd.R_new' ho0 (Kd.R_lt (RU HO_380000.out))) (Kd.R_lt (RU HO_380001.out))) (Kd.R_lt (RU HO_387000.out))) (Kd.R_lt (RU HO_387001.out))) (Kd.R_lt (RU HO_394000.out))) (Kd.R_lt (RU HO_394001.out))) (Kd.R_lt (RU HO_402000.out))) (Kd.R_lt (RU HO_402001.out))) (Kd.R_lt (RU HO430.out))) (Kd.R_lt (RU HO433.out))) (below_size (by repeat (first | (with_reducible first | exact HB.out | apply below_alloc | apply pw_below_drewN | apply below_drew1 | refine below_set ?_ GE356.out | refine below_set ?_ GE357.out | refine below_set ?_ GE379.out | refine below_set ?_ GE386.out | refine below_set ?_ GE393.out | refine below_set ?_ GE401.out | refine below_set ?_ GE447.out) | exact HB.out))))
                have HO439 := Aside0.mk (Kd.R_lower (Kd.R_new' (Kd.R_new' (Kd.R_new' (Kd.R_new' (Kd.R_new' (Kd.R_new' (Kd.R_new' (Kd.R_new' (Kd.R_new' (Kd.R_new' ho1 (Kd.R_lt (RU HO_380000.out))) (Kd.R_lt (RU HO_380001.out))) (Kd.R_lt (RU HO_387000.out))) (Kd.R_lt (RU HO_387001.out))) (Kd.R_lt (RU HO_394000.out))) (Kd.R_lt (RU HO_394001.out))) (Kd.R_lt (RU HO_402000.out))) (Kd.R_lt (RU HO_402001.out))) (Kd.R_lt (RU HO430.out))) (Kd.R_lt (RU HO433.out))) (below_size (by repeat (first | (with_reducible first | exact HB.out | apply below_alloc | apply pw_below_drewN | apply below_drew1 | refine below_set ?_ GE356.out | refine below_set ?_ GE357.out | refine below_set ?_ GE379.out | refine below_set ?_ GE386.out | refine below_set ?_ GE393.out | refine below_set ?_ GE401.out | refine below_set ?_ GE447.out) | exact HB.out))))
                replace HO_380000 := Aside0.mk (Kd.R_mono (Kd.R_told (Kd.R_told (Kd.R_old (RU HO_380000.out) hb) (Kd.R_base ho0)) (Kd.R_base ho1)) (fun _ h_ => h_.1))
                replace HO_380001 := Aside0.mk (Kd.R_mono (Kd.R_told (Kd.R_told (Kd.R_old (RU HO_380001.out) hb) (Kd.R_base ho0)) (Kd.R_base ho1)) (fun _ h_ => h_.1))
                replace HO_387000 := Aside0.mk (Kd.R_mono (Kd.R_told (Kd.R_told (Kd.R_old (RU HO_387000.out) hb) (Kd.R_base ho0)) (Kd.R_base ho1)) (fun _ h_ => h_.1))
                replace HO_387001 := Aside0.mk (Kd.R_mono (Kd.R_told (Kd.R_told (Kd.R_old (RU HO_387001.out) hb) (Kd.R_base ho0)) (Kd.R_base ho1)) (fun _ h_ => h_.1))
                replace HO_394000 := Aside0.mk (Kd.R_mono (Kd.R_told (Kd.R_told (Kd.R_old (RU HO_394000.out) hb) (Kd.R_base ho0)) (Kd.R_base ho1)) (fun _ h_ => h_.1))
                replace HO_394001 := Aside0.mk (Kd.R_mono (Kd.R_told (Kd.R_told (Kd.R_old (RU HO_394001.out) hb) (Kd.R_base ho0)) (Kd.R_base ho1)) (fun _ h_ => h_.1))
                replace HO_402000 := Aside0.mk (Kd.R_mono (Kd.R_told (Kd.R_told (Kd.R_old (RU HO_402000.out) hb) (Kd.R_base ho0)) (Kd.R_base ho1)) (fun _ h_ => h_.1))
                replace HO_402001 := Aside0.mk (Kd.R_mono (Kd.R_told (Kd.R_told (Kd.R_old (RU HO_402001.out) hb) (Kd.R_base ho0)) (Kd.R_base ho1)) (fun _ h_ => h_.1))
                replace HO430 := Aside0.mk (Kd.R_mono (Kd.R_told (Kd.R_told (Kd.R_old (RU HO430.out) hb) (Kd.R_base ho0)) (Kd.R_base ho1)) (fun _ h_ => h_.1))
                replace HO433 := Aside0.mk (Kd.R_mono (Kd.R_told (Kd.R_told (Kd.R_old (RU HO433.out) hb) (Kd.R_base ho0)) (Kd.R_base ho1)) (fun _ h_ => h_.1))
                replace BK356 := Aside0.mk (blk_below (g := gb356) (o := .cells #[.slice A0_0 l0_0.length c0_0, .slice A0_1 l0_1.length c0_1] 24 (0, 0)) (kU BK356.out) hb)
                replace BK357 := Aside0.mk (blk_below (g := gb357) (o := .cells #[.slice A1_0 l1_0.length c1_0, .slice A1_1 l1_1.length c1_1] 24 (0, 0)) (kU BK357.out) hb)
                replace BK379 := Aside0.mk (blk_below (g := gb379) (o := .cells #[.slice Ao43 t372.length co43, .slice Ao45 t375.length co45] 26 (0, 0)) (kU BK379.out) hb)
                replace BK386 := Aside0.mk (blk_below (g := gb386) (o := .cells #[.slice Ao51 t418.length co51, .slice Ao56 t419.length co56] 26 (0, 0)) (kU BK386.out) hb)
                replace BK393 := Aside0.mk (blk_below (g := gb393) (o := .cells #[.slice Ao61 t421.length co61, .slice Ao67 t422.length co67] 26 (0, 0)) (kU BK393.out) hb)
                replace BK401 := Aside0.mk (blk_below (g := gb401) (o := .cells #[.slice Ao71 t394.length co71, .slice Ao78 t397.length co78] 26 (0, 0)) (kU BK401.out) hb)
                replace BK447 := Aside0.mk (blk_below (g := gb447) (o := .cells #[.slice none 0 0, .slice none 0 0] 26 (0, 0)) (kU BK447.out) hb)
                replace HB := Aside0.mk (below_step (by repeat (first | (with_reducible first | exact HB.out | apply below_alloc | apply pw_below_drewN | apply below_drew1 | refine below_set ?_ GE356.out | refine below_set ?_ GE357.out | refine below_set ?_ GE379.out | refine below_set ?_ GE386.out | refine below_set ?_ GE393.out | refine below_set ?_ GE401.out | refine below_set ?_ GE447.out) | exact HB.out)) hb)
                (try clear hb)
                (try clear hb2)
                (try clear hk)
                (try clear hi)
                (try clear ho0)
                (try clear ho1)
                obtain ⟨Ao163, co163, eo163⟩ := Kd.R_slice HO430.out
                (first | subst eo163 | (injection eo163 with f1_ f2_ f3_; have f4_ := f1_.symm; have f5_ := f3_.symm; clear f1_ f2_ f3_; subst f4_; subst f5_))
                obtain ⟨Ao164, co164, eo164⟩ := Kd.R_slice HO433.out
                (first | subst eo164 | (injection eo164 with f1_ f2_ f3_; have f4_ := f1_.symm; have f5_ := f3_.symm; clear f1_ f2_ f3_; subst f4_; subst f5_))
                obtain ⟨Ao165, co165, eo165⟩ := Kd.R_slice HO436.out
                (first | subst eo165 | (injection eo165 with f1_ f2_ f3_; have f4_ := f1_.symm; have f5_ := f3_.symm; clear f1_ f2_ f3_; subst f4_; subst f5_))
                obtain ⟨Ao166, co166, eo166⟩ := Kd.R_slice HO439.out
                (first | subst eo166 | (injection eo166 with f1_ f2_ f3_; have f4_ := f1_.symm; have f5_ := f3_.symm; clear f1_ f2_ f3_; subst f4_; subst f5_))
                refine hK.out _ _ ⟨(blk_cell BK356.out 0).trans rfl, (blk_cell BK356.out 1).trans rfl, (blk_cell BK357.out 0).trans rfl, (blk_cell BK357.out 1).trans rfl⟩ (fun hHeld => ?_)
                clear hK K
                refine norm_ (a' := ?_) ?_ ?_
                rotate_left
                ·
                 show Act.put _ (some 98) _ = _
                 simp only [Act.put, List.setIfInBounds_toArray, List.set_cons_zero, List.set_cons_succ, i64_w, i32_w]
                 rfl
                refine one_ (i := 4) (N := some 99) #[true, true, true, true, true, false, false, false, true, false, false] rfl rfl (one_of HT_.out (by kernel_rfl)) (by decide) (fun K hK => ?_)
                refine goes_ Try.func11 (by kernel_rfl) rfl #[.agg #[.slice Ao163 t428.length co163, .slice Ao164 t431.length co164], .agg #[.slice Ao165 t434.length co165, .slice Ao166 t437.length co166]] (by rfl) rfl rfl (by (try simp only [List.map_toArray, List.map_cons, List.map_nil]); first | done | rfl | (simp only [List.length_drop, List.length_take]; rfl)) ?_
                with_reducible refine (impl_Drop.calls kj101 _ _ t428 _ _ t431 _ _ t434 _ _ t437 t440 t443 t446 _ ?side1 ?side2 ?side3 ?side4 ?side5 ?side6 ?side7 ?side8 A148.out).mono ?_
                (case side1 => exact cU (Kd.R_reads' HO430.out).2.2)
                (case side2 => exact (Kd.R_reads' HO430.out).2.1)
                (case side3 => exact cU (Kd.R_reads' HO433.out).2.2)
                (case side4 => exact (Kd.R_reads' HO433.out).2.1)
                (case side5 => exact cU (Kd.R_reads' HO436.out).2.2)
                (case side6 => exact (Kd.R_reads' HO436.out).2.1)
                (case side7 => exact cU (Kd.R_reads' HO439.out).2.2)
                (case side8 => exact (Kd.R_reads' HO439.out).2.1)
                rintro e w167 ⟨v441, v444, rfl, ho0, ho1, hb⟩
                refine ⟨_, rfl, ?_⟩
                have HO442 := Aside0.mk (Kd.R_lower (Kd.R_new' (Kd.R_new' (Kd.R_new' (Kd.R_new' (Kd.R_new' (Kd.R_new' (Kd.R_new' (Kd.R_new' (Kd.R_new' (Kd.R_new' (Kd.R_new' (Kd.R_new' ho0 (Kd.R_lt (RU HO_380000.out))) (Kd.R_lt (RU HO_380001.out))) (Kd.R_lt (RU HO_387000.out))) (Kd.R_lt (RU HO_387001.out))) (Kd.R_lt (RU HO_394000.out))) (Kd.R_lt (RU HO_394001.out))) (Kd.R_lt (RU HO_402000.out))) (Kd.R_lt (RU HO_402001.out))) (Kd.R_lt (RU HO430.out))) (Kd.R_lt (RU HO433.out))) (Kd.R_lt (RU HO436.out))) (Kd.R_lt (RU HO439.out))) (below_size (by repeat (first | (with_reducible first | exact HB.out | apply below_alloc | apply pw_below_drewN | apply below_drew1 | refine below_set ?_ GE356.out | refine below_set ?_ GE357.out | refine below_set ?_ GE379.out | refine below_set ?_ GE386.out | refine below_set ?_ GE393.out | refine below_set ?_ GE401.out | refine below_set ?_ GE447.out) | exact HB.out))))
                have HO445 := Aside0.mk (Kd.R_lower (Kd.R_new' (Kd.R_new' (Kd.R_new' (Kd.R_new' (Kd.R_new' (Kd.R_new' (Kd.R_new' (Kd.R_new' (Kd.R_new' (Kd.R_new' (Kd.R_new' (Kd.R_new' ho1 (Kd.R_lt (RU HO_380000.out))) (Kd.R_lt (RU HO_380001.out))) (Kd.R_lt (RU HO_387000.out))) (Kd.R_lt (RU HO_387001.out))) (Kd.R_lt (RU HO_394000.out))) (Kd.R_lt (RU HO_394001.out))) (Kd.R_lt (RU HO_402000.out))) (Kd.R_lt (RU HO_402001.out))) (Kd.R_lt (RU HO430.out))) (Kd.R_lt (RU HO433.out))) (Kd.R_lt (RU HO436.out))) (Kd.R_lt (RU HO439.out))) (below_size (by repeat (first | (with_reducible first | exact HB.out | apply below_alloc | apply pw_below_drewN | apply below_drew1 | refine below_set ?_ GE356.out | refine below_set ?_ GE357.out | refine below_set ?_ GE379.out | refine below_set ?_ GE386.out | refine below_set ?_ GE393.out | refine below_set ?_ GE401.out | refine below_set ?_ GE447.out) | exact HB.out))))
                replace HO_380000 := Aside0.mk (Kd.R_mono (Kd.R_told (Kd.R_told (Kd.R_old (RU HO_380000.out) hb) (Kd.R_base ho0)) (Kd.R_base ho1)) (fun _ h_ => h_.1))
                replace HO_380001 := Aside0.mk (Kd.R_mono (Kd.R_told (Kd.R_told (Kd.R_old (RU HO_380001.out) hb) (Kd.R_base ho0)) (Kd.R_base ho1)) (fun _ h_ => h_.1))
                replace HO_387000 := Aside0.mk (Kd.R_mono (Kd.R_told (Kd.R_told (Kd.R_old (RU HO_387000.out) hb) (Kd.R_base ho0)) (Kd.R_base ho1)) (fun _ h_ => h_.1))
                replace HO_387001 := Aside0.mk (Kd.R_mono (Kd.R_told (Kd.R_told (Kd.R_old (RU HO_387001.out) hb) (Kd.R_base ho0)) (Kd.R_base ho1)) (fun _ h_ => h_.1))
                replace HO_394000 := Aside0.mk (Kd.R_mono (Kd.R_told (Kd.R_told (Kd.R_old (RU HO_394000.out) hb) (Kd.R_base ho0)) (Kd.R_base ho1)) (fun _ h_ => h_.1))
                replace HO_394001 := Aside0.mk (Kd.R_mono (Kd.R_told (Kd.R_told (Kd.R_old (RU HO_394001.out) hb) (Kd.R_base ho0)) (Kd.R_base ho1)) (fun _ h_ => h_.1))
                replace HO_402000 := Aside0.mk (Kd.R_mono (Kd.R_told (Kd.R_told (Kd.R_old (RU HO_402000.out) hb) (Kd.R_base ho0)) (Kd.R_base ho1)) (fun _ h_ => h_.1))
                replace HO_402001 := Aside0.mk (Kd.R_mono (Kd.R_told (Kd.R_told (Kd.R_old (RU HO_402001.out) hb) (Kd.R_base ho0)) (Kd.R_base ho1)) (fun _ h_ => h_.1))
                replace HO430 := Aside0.mk (Kd.R_mono (Kd.R_told (Kd.R_told (Kd.R_old (RU HO430.out) hb) (Kd.R_base ho0)) (Kd.R_base ho1)) (fun _ h_ => h_.1))
                replace HO433 := Aside0.mk (Kd.R_mono (Kd.R_told (Kd.R_told (Kd.R_old (RU HO433.out) hb) (Kd.R_base ho0)) (Kd.R_base ho1)) (fun _ h_ => h_.1))
                replace HO436 := Aside0.mk (Kd.R_mono (Kd.R_told (Kd.R_told (Kd.R_old (RU HO436.out) hb) (Kd.R_base ho0)) (Kd.R_base ho1)) (fun _ h_ => h_.1))
                replace HO439 := Aside0.mk (Kd.R_mono (Kd.R_told (Kd.R_told (Kd.R_old (RU HO439.out) hb) (Kd.R_base ho0)) (Kd.R_base ho1)) (fun _ h_ => h_.1))
                replace BK356 := Aside0.mk (blk_below (g := gb356) (o := .cells #[.slice A0_0 l0_0.length c0_0, .slice A0_1 l0_1.length c0_1] 24 (0, 0)) (kU BK356.out) hb)
                replace BK357 := Aside0.mk (blk_below (g := gb357) (o := .cells #[.slice A1_0 l1_0.length c1_0, .slice A1_1 l1_1.length c1_1] 24 (0, 0)) (kU BK357.out) hb)
                replace BK379 := Aside0.mk (blk_below (g := gb379) (o := .cells #[.slice Ao43 t372.length co43, .slice Ao45 t375.length co45] 26 (0, 0)) (kU BK379.out) hb)
                replace BK386 := Aside0.mk (blk_below (g := gb386) (o := .cells #[.slice Ao51 t418.length co51, .slice Ao56 t419.length co56] 26 (0, 0)) (kU BK386.out) hb)
                replace BK393 := Aside0.mk (blk_below (g := gb393) (o := .cells #[.slice Ao61 t421.length co61, .slice Ao67 t422.length co67] 26 (0, 0)) (kU BK393.out) hb)
                replace BK401 := Aside0.mk (blk_below (g := gb401) (o := .cells #[.slice Ao71 t394.length co71, .slice Ao78 t397.length co78] 26 (0, 0)) (kU BK401.out) hb)
                replace BK447 := Aside0.mk (blk_below (g := gb447) (o := .cells #[.slice none 0 0, .slice none 0 0] 26 (0, 0)) (kU BK447.out) hb)
                replace HB := Aside0.mk (below_step (by repeat (first | (with_reducible first | exact HB.out | apply below_alloc | apply pw_below_drewN | apply below_drew1 | refine below_set ?_ GE356.out | refine below_set ?_ GE357.out | refine below_set ?_ GE379.out | refine below_set ?_ GE386.out | refine below_set ?_ GE393.out | refine below_set ?_ GE401.out | refine below_set ?_ GE447.out) | exact HB.out)) hb)
                (try clear hb)
                (try clear hb2)
                (try clear hk)
                (try clear hi)
                (try clear ho0)
                (try clear ho1)
                refine hK.out _ _ ⟨(blk_cell BK356.out 0).trans rfl, (blk_cell BK356.out 1).trans rfl, (blk_cell BK357.out 0).trans rfl, (blk_cell BK357.out 1).trans rfl⟩ (fun hHeld => ?_)
                clear hK K
                refine norm_ (a' := ?_) ?_ ?_
                rotate_left
                ·
                 show Act.put _ (some 99) _ = _
                 simp only [Act.put, List.setIfInBounds_toArray, List.set_cons_zero, List.set_cons_succ, i64_w, i32_w]
                 rfl
                refine pure_ (i := 5) (N := some 94) (v := ?_) (a' := ?_) #[true, true, true, true, true, true, false, false, true, false, false] rfl rfl (any_of HT_.out (by kernel_rfl)) (fun _ _ _ h => h) (Or.inl ⟨by rfl, ?_⟩) ?_ ?_
                rotate_left
                ·
                 intro w'
                 go_simp
                 with_reducible rfl
                rotate_left
                ·
                 simp only [Act.put, List.setIfInBounds_toArray, List.set_cons_zero, List.set_cons_succ, i64_w, i32_w]
                 rfl
                refine pure_ (i := 6) (N := some 100) (v := ?_) (a' := ?_) #[true, true, true, true, true, true, true, false, true, false, false] rfl rfl (any_of HT_.out (by kernel_rfl)) (fun _ _ _ h => h) (Or.inl ⟨by rfl, ?_⟩) ?_ ?_
                rotate_left
                ·
                 intro w'
                 go_simp
                 with_reducible rfl
                rotate_left
                ·
                 simp only [Act.put, List.setIfInBounds_toArray, List.set_cons_zero, List.set_cons_succ, i64_w, i32_w]
                 rfl
                refine pure_ (i := 7) (N := some 101) (v := ?_) (a' := ?_) #[true, true, true, true, true, true, true, true, true, false, false] rfl rfl (any_of HT_.out (by kernel_rfl)) (fun _ _ _ h => h) (Or.inl ⟨by rfl, ?_⟩) ?_ ?_
                rotate_left
                ·
                 intro w'
                 go_simp
                 with_reducible rfl
                rotate_left
                ·
                 simp only [Act.put, List.setIfInBounds_toArray, List.set_cons_zero, List.set_cons_succ, i64_w, i32_w]
                 rfl
                exact norm_ (by simp only [putAll, Act.put, List.setIfInBounds_toArray, List.set_cons_zero, List.set_cons_succ]) (hCont (.slice Ao163 t428.length co163, .slice Ao164 t431.length co164, .slice Ao165 t434.length co165, .slice Ao166 t437.length co166, v441, v444, gb447) _ ⟨hHeld, (by (with_reducible repeat (first | apply Kd.R_alloc | apply Kd.R_drewN | apply Kd.R_drew)); exact Kd.R_mono HO430.out (fun _ hk => ⟨hk.1.1.1.1.1.1.1.1.1.1.1.1, ⟨hk.1.1.1.2, ⟨hk.1.1.2, ⟨hk.1.2, ⟨hk.2, ⟨hk.1.1.1.1.1.1.1.1.1.1.1.2, ⟨hk.1.1.1.1.1.1.1.1.1.1.2, ⟨hk.1.1.1.1.1.1.1.1.1.2, ⟨hk.1.1.1.1.1.1.1.1.2, ⟨hk.1.1.1.1.1.1.1.2, ⟨hk.1.1.1.1.1.1.2, ⟨hk.1.1.1.1.1.2, hk.1.1.1.1.2⟩⟩⟩⟩⟩⟩⟩⟩⟩⟩⟩⟩)), (by (with_reducible repeat (first | apply Kd.R_alloc | apply Kd.R_drewN | apply Kd.R_drew)); exact Kd.R_mono HO433.out (fun _ hk => ⟨hk.1.1.1.1.1.1.1.1.1.1.1.1, ⟨hk.1.1.1.2, ⟨hk.1.1.2, ⟨hk.1.2, ⟨hk.2, ⟨hk.1.1.1.1.1.1.1.1.1.1.1.2, ⟨hk.1.1.1.1.1.1.1.1.1.1.2, ⟨hk.1.1.1.1.1.1.1.1.1.2, ⟨hk.1.1.1.1.1.1.1.1.2, ⟨hk.1.1.1.1.1.1.1.2, ⟨hk.1.1.1.1.1.1.2, ⟨hk.1.1.1.1.1.2, hk.1.1.1.1.2⟩⟩⟩⟩⟩⟩⟩⟩⟩⟩⟩⟩)), (by (with_reducible repeat (first | apply Kd.R_alloc | apply Kd.R_drewN | apply Kd.R_drew)); exact Kd.R_mono HO436.out (fun _ hk => ⟨hk.1.1.1.2, ⟨hk.1.1.2, ⟨hk.1.1.1.1.1.1.1.1.1.1.1.1, ⟨hk.1.2, ⟨hk.2, ⟨hk.1.1.1.1.1.1.1.1.1.1.1.2, ⟨hk.1.1.1.1.1.1.1.1.1.1.2, ⟨hk.1.1.1.1.1.1.1.1.1.2, ⟨hk.1.1.1.1.1.1.1.1.2, ⟨hk.1.1.1.1.1.1.1.2, ⟨hk.1.1.1.1.1.1.2, ⟨hk.1.1.1.1.1.2, hk.1.1.1.1.2⟩⟩⟩⟩⟩⟩⟩⟩⟩⟩⟩⟩)), (by (with_reducible repeat (first | apply Kd.R_alloc | apply Kd.R_drewN | apply Kd.R_drew)); exact Kd.R_mono HO439.out (fun _ hk => ⟨hk.1.1.1.2, ⟨hk.1.1.2, ⟨hk.1.1.1.1.1.1.1.1.1.1.1.1, ⟨hk.1.2, ⟨hk.2, ⟨hk.1.1.1.1.1.1.1.1.1.1.1.2, ⟨hk.1.1.1.1.1.1.1.1.1.1.2, ⟨hk.1.1.1.1.1.1.1.1.1.2, ⟨hk.1.1.1.1.1.1.1.1.2, ⟨hk.1.1.1.1.1.1.1.2, ⟨hk.1.1.1.1.1.1.2, ⟨hk.1.1.1.1.1.2, hk.1.1.1.1.2⟩⟩⟩⟩⟩⟩⟩⟩⟩⟩⟩⟩)), (by (with_reducible repeat (first | apply Kd.R_alloc | apply Kd.R_drewN | apply Kd.R_drew)); exact Kd.R_mono HO442.out (fun _ hk => ⟨hk.1.1.1.2, ⟨hk.1.1.2, ⟨hk.1.2, ⟨hk.2, ⟨hk.1.1.1.1.1.1.1.1.1.1.1.1, ⟨hk.1.1.1.1.1.1.1.1.1.1.1.2, ⟨hk.1.1.1.1.1.1.1.1.1.1.2, ⟨hk.1.1.1.1.1.1.1.1.1.2, ⟨hk.1.1.1.1.1.1.1.1.2, ⟨hk.1.1.1.1.1.1.1.2, ⟨hk.1.1.1.1.1.1.2, ⟨hk.1.1.1.1.1.2, hk.1.1.1.1.2⟩⟩⟩⟩⟩⟩⟩⟩⟩⟩⟩⟩)), (by (with_reducible repeat (first | apply Kd.R_alloc | apply Kd.R_drewN | apply Kd.R_drew)); exact Kd.R_mono HO445.out (fun _ hk => ⟨hk.1.1.1.2, ⟨hk.1.1.2, ⟨hk.1.2, ⟨hk.2, ⟨hk.1.1.1.1.1.1.1.1.1.1.1.1, ⟨hk.1.1.1.1.1.1.1.1.1.1.1.2, ⟨hk.1.1.1.1.1.1.1.1.1.1.2, ⟨hk.1.1.1.1.1.1.1.1.1.2, ⟨hk.1.1.1.1.1.1.1.1.2, ⟨hk.1.1.1.1.1.1.1.2, ⟨hk.1.1.1.1.1.1.2, ⟨hk.1.1.1.1.1.2, hk.1.1.1.1.2⟩⟩⟩⟩⟩⟩⟩⟩⟩⟩⟩⟩)), (by (with_reducible repeat (first | apply Kd.R_alloc | apply Kd.R_drewN | apply Kd.R_drew)); exact Kd.R_mono HO_380000.out (fun _ hk => ⟨hk.1.1.1.1.1.2, ⟨hk.1.1.1.1.2, ⟨hk.1.1.1.2, ⟨hk.1.1.2, ⟨hk.1.2, ⟨hk.2, ⟨hk.1.1.1.1.1.1.1, ⟨hk.1.1.1.1.1.1.2.1, ⟨hk.1.1.1.1.1.1.2.2.1, ⟨hk.1.1.1.1.1.1.2.2.2.1, ⟨hk.1.1.1.1.1.1.2.2.2.2.1, ⟨hk.1.1.1.1.1.1.2.2.2.2.2.1, hk.1.1.1.1.1.1.2.2.2.2.2.2⟩⟩⟩⟩⟩⟩⟩⟩⟩⟩⟩⟩)), (by (with_reducible repeat (first | apply Kd.R_alloc | apply Kd.R_drewN | apply Kd.R_drew)); exact Kd.R_mono HO_380001.out (fun _ hk => ⟨hk.1.1.1.1.1.2, ⟨hk.1.1.1.1.2, ⟨hk.1.1.1.2, ⟨hk.1.1.2, ⟨hk.1.2, ⟨hk.2, ⟨hk.1.1.1.1.1.1.1, ⟨hk.1.1.1.1.1.1.2.1, ⟨hk.1.1.1.1.1.1.2.2.1, ⟨hk.1.1.1.1.1.1.2.2.2.1, ⟨hk.1.1.1.1.1.1.2.2.2.2.1, ⟨hk.1.1.1.1.1.1.2.2.2.2.2.1, hk.1.1.1.1.1.1.2.2.2.2.2.2⟩⟩⟩⟩⟩⟩⟩⟩⟩⟩⟩⟩)), (by (with_reducible repeat (first | apply Kd.R_alloc | apply Kd.R_drewN | apply Kd.R_drew)); exact Kd.R_mono HO_387000.out (fun _ hk => ⟨hk.1.1.1.1.1.2, ⟨hk.1.1.1.1.2, ⟨hk.1.1.1.2, ⟨hk.1.1.2, ⟨hk.1.2, ⟨hk.2, ⟨hk.1.1.1.1.1.1.1, ⟨hk.1.1.1.1.1.1.2.1, ⟨hk.1.1.1.1.1.1.2.2.1, ⟨hk.1.1.1.1.1.1.2.2.2.1, ⟨hk.1.1.1.1.1.1.2.2.2.2.1, ⟨hk.1.1.1.1.1.1.2.2.2.2.2.1, hk.1.1.1.1.1.1.2.2.2.2.2.2⟩⟩⟩⟩⟩⟩⟩⟩⟩⟩⟩⟩)), (by (with_reducible repeat (first | apply Kd.R_alloc | apply Kd.R_drewN | apply Kd.R_drew)); exact Kd.R_mono HO_387001.out (fun _ hk => ⟨hk.1.1.1.1.1.2, ⟨hk.1.1.1.1.2, ⟨hk.1.1.1.2, ⟨hk.1.1.2, ⟨hk.1.2, ⟨hk.2, ⟨hk.1.1.1.1.1.1.1, ⟨hk.1.1.1.1.1.1.2.1, ⟨hk.1.1.1.1.1.1.2.2.1, ⟨hk.1.1.1.1.1.1.2.2.2.1, ⟨hk.1.1.1.1.1.1.2.2.2.2.1, ⟨hk.1.1.1.1.1.1.2.2.2.2.2.1, hk.1.1.1.1.1.1.2.2.2.2.2.2⟩⟩⟩⟩⟩⟩⟩⟩⟩⟩⟩⟩)), (by (with_reducible repeat (first | apply Kd.R_alloc | apply Kd.R_drewN | apply Kd.R_drew)); exact Kd.R_mono HO_394000.out (fun _ hk => ⟨hk.1.1.1.1.1.2, ⟨hk.1.1.1.1.2, ⟨hk.1.1.1.2, ⟨hk.1.1.2, ⟨hk.1.2, ⟨hk.2, ⟨hk.1.1.1.1.1.1.1, ⟨hk.1.1.1.1.1.1.2.1, ⟨hk.1.1.1.1.1.1.2.2.1, ⟨hk.1.1.1.1.1.1.2.2.2.1, ⟨hk.1.1.1.1.1.1.2.2.2.2.1, ⟨hk.1.1.1.1.1.1.2.2.2.2.2.1, hk.1.1.1.1.1.1.2.2.2.2.2.2⟩⟩⟩⟩⟩⟩⟩⟩⟩⟩⟩⟩)), (by (with_reducible repeat (first | apply Kd.R_alloc | apply Kd.R_drewN | apply Kd.R_drew)); exact Kd.R_mono HO_394001.out (fun _ hk => ⟨hk.1.1.1.1.1.2, ⟨hk.1.1.1.1.2, ⟨hk.1.1.1.2, ⟨hk.1.1.2, ⟨hk.1.2, ⟨hk.2, ⟨hk.1.1.1.1.1.1.1, ⟨hk.1.1.1.1.1.1.2.1, ⟨hk.1.1.1.1.1.1.2.2.1, ⟨hk.1.1.1.1.1.1.2.2.2.1, ⟨hk.1.1.1.1.1.1.2.2.2.2.1, ⟨hk.1.1.1.1.1.1.2.2.2.2.2.1, hk.1.1.1.1.1.1.2.2.2.2.2.2⟩⟩⟩⟩⟩⟩⟩⟩⟩⟩⟩⟩)), (by (with_reducible repeat (first | apply Kd.R_alloc | apply Kd.R_drewN | apply Kd.R_drew)); exact Kd.R_mono HO_402000.out (fun _ hk => ⟨hk.1.1.1.1.1.2, ⟨hk.1.1.1.1.2, ⟨hk.1.1.1.2, ⟨hk.1.1.2, ⟨hk.1.2, ⟨hk.2, ⟨hk.1.1.1.1.1.1.1, ⟨hk.1.1.1.1.1.1.2.1, ⟨hk.1.1.1.1.1.1.2.2.1, ⟨hk.1.1.1.1.1.1.2.2.2.1, ⟨hk.1.1.1.1.1.1.2.2.2.2.1, ⟨hk.1.1.1.1.1.1.2.2.2.2.2.1, hk.1.1.1.1.1.1.2.2.2.2.2.2⟩⟩⟩⟩⟩⟩⟩⟩⟩⟩⟩⟩)), (by (with_reducible repeat (first | apply Kd.R_alloc | apply Kd.R_drewN | apply Kd.R_drew)); exact Kd.R_mono HO_402001.out (fun _ hk => ⟨hk.1.1.1.1.1.2, ⟨hk.1.1.1.1.2, ⟨hk.1.1.1.2, ⟨hk.1.1.2, ⟨hk.1.2, ⟨hk.2, ⟨hk.1.1.1.1.1.1.1, ⟨hk.1.1.1.1.1.1.2.1, ⟨hk.1.1.1.1.1.1.2.2.1, ⟨hk.1.1.1.1.1.1.2.2.2.1, ⟨hk.1.1.1.1.1.1.2.2.2.2.1, ⟨hk.1.1.1.1.1.1.2.2.2.2.2.1, hk.1.1.1.1.1.1.2.2.2.2.2.2⟩⟩⟩⟩⟩⟩⟩⟩⟩⟩⟩⟩)), (kU BK356.out), (kU BK357.out), (kU BK379.out), (kU BK386.out), (kU BK393.out), (kU BK401.out), (kU BK447.out), GW447.out, GE447.out, NB356_447.out, NB447_356.out, NB357_447.out, NB447_357.out, NB379_447.out, NB447_379.out, NB386_447.out, NB447_386.out, NB393_447.out, NB447_393.out, NB401_447.out, NB447_401.out, (by repeat (first | (with_reducible first | exact HB.out | apply below_alloc | apply pw_below_drewN | apply below_drew1 | refine below_set ?_ GE356.out | refine below_set ?_ GE357.out | refine below_set ?_ GE379.out | refine below_set ?_ GE386.out | refine below_set ?_ GE393.out | refine below_set ?_ GE401.out | refine below_set ?_ GE447.out) | exact HB.out))⟩)
              ·
               skip
               refine box_step ?hg (N := 15) ?hd (cs := #[.slice none 0 0, .slice none 0 0]) (t := 26) ?hr ?_; (case hd => rfl); (case hg => rfl); (case hr => first | (go_simp; done) | (go_simp; rfl))
               intro gb447 hg w160 hbox hb
               replace HO_380000 := Aside0.mk (Kd.R_below (RU HO_380000.out) hb)
               replace HO_380001 := Aside0.mk (Kd.R_below (RU HO_380001.out) hb)
               replace HO_387000 := Aside0.mk (Kd.R_below (RU HO_387000.out) hb)
               replace HO_387001 := Aside0.mk (Kd.R_below (RU HO_387001.out) hb)
               replace HO_394000 := Aside0.mk (Kd.R_below (RU HO_394000.out) hb)
               replace HO_394001 := Aside0.mk (Kd.R_below (RU HO_394001.out) hb)
               replace HO_402000 := Aside0.mk (Kd.R_below (RU HO_402000.out) hb)
               replace HO_402001 := Aside0.mk (Kd.R_below (RU HO_402001.out) hb)
               have BK447 := Aside0.mk (hbox)
               have GW447 := Aside0.mk ((by rw [hg]; exact (below_size (by repeat (first | (with_reducible first | exact HB.out | apply below_alloc | apply pw_below_drewN | apply below_drew1 | refine below_set ?_ GE356.out | refine below_set ?_ GE357.out | refine below_set ?_ GE379.out | refine below_set ?_ GE386.out | refine below_set ?_ GE393.out | refine below_set ?_ GE401.out) | exact HB.out))) : w.heap.size ≤ gb447))
               have GE447 := Aside0.mk ((by rw [hg]; exact (below_size (by repeat (first | (with_reducible first | exact HB.out | apply below_alloc | apply pw_below_drewN | apply below_drew1 | refine below_set ?_ GE356.out | refine below_set ?_ GE357.out | refine below_set ?_ GE379.out | refine below_set ?_ GE386.out | refine below_set ?_ GE393.out | refine below_set ?_ GE401.out) | exact HB.out))) : w.heap.size ≤ gb447))
               replace HB := Aside0.mk (below_step (by repeat (first | (with_reducible first | exact HB.out | apply below_alloc | apply pw_below_drewN | apply below_drew1 | refine below_set ?_ GE356.out | refine below_set ?_ GE357.out | refine below_set ?_ GE379.out | refine below_set ?_ GE386.out | refine below_set ?_ GE393.out | refine below_set ?_ GE401.out) | exact HB.out)) hb)
               have NB356_447 := Aside0.mk ((by rw [hg]; exact Nat.ne_of_lt (blk_lt (g := gb356) (o := .cells #[.slice A0_0 l0_0.length c0_0, .slice A0_1 l0_1.length c0_1] 24 (0, 0)) (kU BK356.out)) : gb356 ≠ gb447))
               have NB447_356 := Aside0.mk ((by rw [hg]; exact Nat.ne_of_gt (blk_lt (g := gb356) (o := .cells #[.slice A0_0 l0_0.length c0_0, .slice A0_1 l0_1.length c0_1] 24 (0, 0)) (kU BK356.out)) : gb447 ≠ gb356))
               replace BK356 := Aside0.mk (blk_below (g := gb356) (o := .cells #[.slice A0_0 l0_0.length c0_0, .slice A0_1 l0_1.length c0_1] 24 (0, 0)) (kU BK356.out) hb)
               have NB357_447 := Aside0.mk ((by rw [hg]; exact Nat.ne_of_lt (blk_lt (g := gb357) (o := .cells #[.slice A1_0 l1_0.length c1_0, .slice A1_1 l1_1.length c1_1] 24 (0, 0)) (kU BK357.out)) : gb357 ≠ gb447))
               have NB447_357 := Aside0.mk ((by rw [hg]; exact Nat.ne_of_gt (blk_lt (g := gb357) (o := .cells #[.slice A1_0 l1_0.length c1_0, .slice A1_1 l1_1.length c1_1] 24 (0, 0)) (kU BK357.out)) : gb447 ≠ gb357))
               replace BK357 := Aside0.mk (blk_below (g := gb357) (o := .cells #[.slice A1_0 l1_0.length c1_0, .slice A1_1 l1_1.length c1_1] 24 (0, 0)) (kU BK357.out) hb)
               have NB379_447 := Aside0.mk ((by rw [hg]; exact Nat.ne_of_lt (blk_lt (g := gb379) (o := .cells #[.slice Ao43 t372.length co43, .slice Ao45 t375.length co45] 26 (0, 0)) (kU BK379.out)) : gb379 ≠ gb447))
               have NB447_379 := Aside0.mk ((by rw [hg]; exact Nat.ne_of_gt (blk_lt (g := gb379) (o := .cells #[.slice Ao43 t372.length co43, .slice Ao45 t375.length co45] 26 (0, 0)) (kU BK379.out)) : gb447 ≠ gb379))
               replace BK379 := Aside0.mk (blk_below (g := gb379) (o := .cells #[.slice Ao43 t372.length co43, .slice Ao45 t375.length co45] 26 (0, 0)) (kU BK379.out) hb)
               have NB386_447 := Aside0.mk ((by rw [hg]; exact Nat.ne_of_lt (blk_lt (g := gb386) (o := .cells #[.slice Ao51 t418.length co51, .slice Ao56 t419.length co56] 26 (0, 0)) (kU BK386.out)) : gb386 ≠ gb447))
               have NB447_386 := Aside0.mk ((by rw [hg]; exact Nat.ne_of_gt (blk_lt (g := gb386) (o := .cells #[.slice Ao51 t418.length co51, .slice Ao56 t419.length co56] 26 (0, 0)) (kU BK386.out)) : gb447 ≠ gb386))
               replace BK386 := Aside0.mk (blk_below (g := gb386) (o := .cells #[.slice Ao51 t418.length co51, .slice Ao56 t419.length co56] 26 (0, 0)) (kU BK386.out) hb)
               have NB393_447 := Aside0.mk ((by rw [hg]; exact Nat.ne_of_lt (blk_lt (g := gb393) (o := .cells #[.slice Ao61 t421.length co61, .slice Ao67 t422.length co67] 26 (0, 0)) (kU BK393.out)) : gb393 ≠ gb447))
               have NB447_393 := Aside0.mk ((by rw [hg]; exact Nat.ne_of_gt (blk_lt (g := gb393) (o := .cells #[.slice Ao61 t421.length co61, .slice Ao67 t422.length co67] 26 (0, 0)) (kU BK393.out)) : gb447 ≠ gb393))
               replace BK393 := Aside0.mk (blk_below (g := gb393) (o := .cells #[.slice Ao61 t421.length co61, .slice Ao67 t422.length co67] 26 (0, 0)) (kU BK393.out) hb)
               have NB401_447 := Aside0.mk ((by rw [hg]; exact Nat.ne_of_lt (blk_lt (g := gb401) (o := .cells #[.slice Ao71 t394.length co71, .slice Ao78 t397.length co78] 26 (0, 0)) (kU BK401.out)) : gb401 ≠ gb447))
               have NB447_401 := Aside0.mk ((by rw [hg]; exact Nat.ne_of_gt (blk_lt (g := gb401) (o := .cells #[.slice Ao71 t394.length co71, .slice Ao78 t397.length co78] 26 (0, 0)) (kU BK401.out)) : gb447 ≠ gb401))
               replace BK401 := Aside0.mk (blk_below (g := gb401) (o := .cells #[.slice Ao71 t394.length co71, .slice Ao78 t397.length co78] 26 (0, 0)) (kU BK401.out) hb)
               clear hb hbox hg
               refine hK.out _ _ ⟨(blk_cell BK356.out 0).trans rfl, (blk_cell BK356.out 1).trans rfl, (blk_cell BK357.out 0).trans rfl, (blk_cell BK357.out 1).trans rfl⟩ (fun hHeld => ?_)
               clear hK K
               refine norm_ (a' := ?_) ?_ ?_
               rotate_left
               ·
                show Act.put _ (some 15) _ = _
                simp only [Act.put, List.setIfInBounds_toArray, List.set_cons_zero, List.set_cons_succ, i64_w, i32_w]
                rfl
               refine one_ (i := 1) (N := some 96) #[true, true, true, false, false, false, false, false, true, false, false] rfl rfl (one_of HT_.out (by kernel_rfl)) (by decide) (fun K hK => ?_)
               refine goes_ Try.func10 (by kernel_rfl) rfl #[.agg #[.slice A0_0 l0_0.length c0_0, .slice A0_1 l0_1.length c0_1]] (by rfl) rfl rfl (by (try simp only [List.map_toArray, List.map_cons, List.map_nil]); first | done | rfl | (simp only [List.length_drop, List.length_take]; rfl)) ?_
               with_reducible refine (laws_toArray.calls kj101 _ _ l0_0 _ _ l0_1 t428 t431 _ ?side1 ?side2 ?side3 ?side4 A146.out).mono ?_
               (case side1 => exact cU (Kd.C_below HR0_0.out HB.out))
               (case side2 => exact HC0_0.out)
               (case side3 => exact cU (Kd.C_below HR0_1.out HB.out))
               (case side4 => exact HC0_1.out)
               rintro e w161 ⟨v429, v432, rfl, ho0, ho1, hb⟩
               refine ⟨_, rfl, ?_⟩
               have HO430 := Aside0.mk (Kd.R_lower (Kd.R_new' (Kd.R_new' (Kd.R_new' (Kd.R_new' (Kd.R_new' (Kd.R_new' (Kd.R_new' (Kd.R_new' ho0 (Kd.R_lt (RU HO_380000.out))) (Kd.R_lt (RU HO_380001.out))) (Kd.R_lt (RU HO_387000.out))) (Kd.R_lt (RU HO_387001.out))) (Kd.R_lt (RU HO_394000.out))) (Kd.R_lt (RU HO_394001.out))) (Kd.R_lt (RU HO_402000.out))) (Kd.R_lt (RU HO_402001.out))) (below_size (by repeat (first | (with_reducible first | exact HB.out | apply below_alloc | apply pw_below_drewN | apply below_drew1 | refine below_set ?_ GE356.out | refine below_set ?_ GE357.out | refine below_set ?_ GE379.out | refine below_set ?_ GE386.out | refine below_set ?_ GE393.out | refine below_set ?_ GE401.out | refine below_set ?_ GE447.out) | exact HB.out))))
               have HO433 := Aside0.mk (Kd.R_lower (Kd.R_new' (Kd.R_new' (Kd.R_new' (Kd.R_new' (Kd.R_new' (Kd.R_new' (Kd.R_new' (Kd.R_new' ho1 (Kd.R_lt (RU HO_380000.out))) (Kd.R_lt (RU HO_380001.out))) (Kd.R_lt (RU HO_387000.out))) (Kd.R_lt (RU HO_387001.out))) (Kd.R_lt (RU HO_394000.out))) (Kd.R_lt (RU HO_394001.out))) (Kd.R_lt (RU HO_402000.out))) (Kd.R_lt (RU HO_402001.out))) (below_size (by repeat (first | (with_reducible first | exact HB.out | apply below_alloc | apply pw_below_drewN | apply below_drew1 | refine below_set ?_ GE356.out | refine below_set ?_ GE357.out | refine below_set ?_ GE379.out | refine below_set ?_ GE386.out | refine below_set ?_ GE393.out | refine below_set ?_ GE401.out | refine below_set ?_ GE447.out) | exact HB.out))))
               replace HO_380000 := Aside0.mk (Kd.R_mono (Kd.R_told (Kd.R_told (Kd.R_old (RU HO_380000.out) hb) (Kd.R_base ho0)) (Kd.R_base ho1)) (fun _ h_ => h_.1))
               replace HO_380001 := Aside0.mk (Kd.R_mono (Kd.R_told (Kd.R_told (Kd.R_old (RU HO_380001.out) hb) (Kd.R_base ho0)) (Kd.R_base ho1)) (fun _ h_ => h_.1))
               replace HO_387000 := Aside0.mk (Kd.R_mono (Kd.R_told (Kd.R_told (Kd.R_old (RU HO_387000.out) hb) (Kd.R_base ho0)) (Kd.R_base ho1)) (fun _ h_ => h_.1))
               replace HO_387001 := Aside0.mk (Kd.R_mono (Kd.R_told (Kd.R_told (Kd.R_old (RU HO_387001.out) hb) (Kd.R_base ho0)) (Kd.R_base ho1)) (fun _ h_ => h_.1))
               replace HO_394000 := Aside0.mk (Kd.R_mono (Kd.R_told (Kd.R_told (Kd.R_old (RU HO_394000.out) hb) (Kd.R_base ho0)) (Kd.R_base ho1)) (fun _ h_ => h_.1))
               replace HO_394001 := Aside0.mk (Kd.R_mono (Kd.R_told (Kd.R_told (Kd.R_old (RU HO_394001.out) hb) (Kd.R_base ho0)) (Kd.R_base ho1)) (fun _ h_ => h_.1))
               replace HO_402000 := Aside0.mk (Kd.R_mono (Kd.R_told (Kd.R_told (Kd.R_old (RU HO_402000.out) hb) (Kd.R_base ho0)) (Kd.R_base ho1)) (fun _ h_ => h_.1))
               replace HO_402001 := Aside0.mk (Kd.R_mono (Kd.R_told (Kd.R_told (Kd.R_old (RU HO_402001.out) hb) (Kd.R_base ho0)) (Kd.R_base ho1)) (fun _ h_ => h_.1))
               replace BK356 := Aside0.mk (blk_below (g := gb356) (o := .cells #[.slice A0_0 l0_0.length c0_0, .slice A0_1 l0_1.length c0_1] 24 (0, 0)) (kU BK356.out) hb)
               replace BK357 := Aside0.mk (blk_below (g := gb357) (o := .cells #[.slice A1_0 l1_0.length c1_0, .slice A1_1 l1_1.length c1_1] 24 (0, 0)) (kU BK357.out) hb)
               replace BK379 := Aside0.mk (blk_below (g := gb379) (o := .cells #[.slice Ao43 t372.length co43, .slice Ao45 t375.length co45] 26 (0, 0)) (kU BK379.out) hb)
               replace BK386 := Aside0.mk (blk_below (g := gb386) (o := .cells #[.slice Ao51 t418.length co51, .slice Ao56 t419.length co56] 26 (0, 0)) (kU BK386.out) hb)
               replace BK393 := Aside0.mk (blk_below (g := gb393) (o := .cells #[.slice Ao61 t421.length co61, .slice Ao67 t422.length co67] 26 (0, 0)) (kU BK393.out) hb)
               replace BK401 := Aside0.mk (blk_below (g := gb401) (o := .cells #[.slice Ao71 t394.length co71, .slice Ao78 t397.length co78] 26 (0, 0)) (kU BK401.out) hb)
               replace BK447 := Aside0.mk (blk_below (g := gb447) (o := .cells #[.slice none 0 0, .slice none 0 0] 26 (0, 0)) (kU BK447.out) hb)
               replace HB := Aside0.mk (below_step (by repeat (first | (with_reducible first | exact HB.out | apply below_alloc | apply pw_below_drewN | apply below_drew1 | refine below_set ?_ GE356.out | refine below_set ?_ GE357.out | refine below_set ?_ GE379.out | refine below_set ?_ GE386.out | refine below_set ?_ GE393.out | refine below_set ?_ GE401.out | refine below_set ?_ GE447.out) | exact HB.out)) hb)
               (try clear hb)
               (try clear hb2)
               (try clear hk)
               (try clear hi)
               (try clear ho0)
               (try clear ho1)
               refine hK.out _ _ ⟨(blk_cell BK356.out 0).trans rfl, (blk_cell BK356.out 1).trans rfl, (blk_cell BK357.out 0).trans rfl, (blk_cell BK357.out 1).trans rfl⟩ (fun hHeld => ?_)
               clear hK K
               refine norm_ (a' := ?_) ?_ ?_
               rotate_left
               ·
                show Act.put _ (some 96) _ = _
                simp only [Act.put, List.setIfInBounds_toArray, List.set_cons_zero, List.set_cons_succ, i64_w, i32_w]
                rfl
               refine one_ (i := 3) (N := some 98) #[true, true, true, true, false, false, false, false, true, false, false] rfl rfl (one_of HT_.out (by kernel_rfl)) (by decide) (fun K hK => ?_)
               refine goes_ Try.func10 (by kernel_rfl) rfl #[.agg #[.slice A1_0 l1_0.length c1_0, .slice A1_1 l1_1.length c1_1]] (by rfl) rfl rfl (by (try simp only [List.map_toArray, List.map_cons, List.map_nil]); first | done | rfl | (simp only [List.length_drop, List.length_take]; rfl)) ?_
               with_reducible refine (laws_toArray.calls kj101 _ _ l1_0 _ _ l1_1 t434 t437 _ ?side1 ?side2 ?side3 ?side4 A147.out).mono ?_
               (case side1 => exact cU (Kd.C_below HR1_0.out HB.out))
               (case side2 => exact HC1_0.out)
               (case side3 => exact cU (Kd.C_below HR1_1.out HB.out))
               (case side4 => exact HC1_1.out)
               rintro e w162 ⟨v435, v438, rfl, ho0, ho1, hb⟩
               refine ⟨_, rfl, ?_⟩
               have HO436 := Aside0.mk (Kd.R_lower (Kd.R_new' (Kd.R_new' (Kd.R_new' (Kd.R_new' (Kd.R_new' (Kd.R_new' (Kd.R_new' (Kd.R_new' (Kd.R_new' (Kd.R_new' ho0 (Kd.R_lt (RU HO_380000.out))) (Kd.R_lt (RU HO_380001.out))) (Kd.R_lt (RU HO_387000.out))) (Kd.R_lt (RU HO_387001.out))) (Kd.R_lt (RU HO_394000.out))) (Kd.R_lt (RU HO_394001.out))) (Kd.R_lt (RU HO_402000.out))) (Kd.R_lt (RU HO_402001.out))) (Kd.R_lt (RU HO430.out))) (Kd.R_lt (RU HO433.out))) (below_size (by repeat (first | (with_reducible first | exact HB.out | apply below_alloc | apply pw_below_drewN | apply below_drew1 | refine below_set ?_ GE356.out | refine below_set ?_ GE357.out | refine below_set ?_ GE379.out | refine below_set ?_ GE386.out | refine below_set ?_ GE393.out | refine below_set ?_ GE401.out | refine below_set ?_ GE447.out) | exact HB.out))))
               have HO439 := Aside0.mk (Kd.R_lower (Kd.R_new' (Kd.R_new' (Kd.R_new' (Kd.R_new' (Kd.R_new' (Kd.R_new' (Kd.R_new' (Kd.R_new' (Kd.R_new' (Kd.R_new' ho1 (Kd.R_lt (RU HO_380000.out))) (Kd.R_lt (RU HO_380001.out))) (Kd.R_lt (RU HO_387000.out))) (Kd.R_lt (RU HO_387001.out))) (Kd.R_lt (RU HO_394000.out))) (Kd.R_lt (RU HO_394001.out))) (Kd.R_lt (RU HO_402000.out))) (Kd.R_lt (RU HO_402001.out))) (Kd.R_lt (RU HO430.out))) (Kd.R_lt (RU HO433.out))) (below_size (by repeat (first | (with_reducible first | exact HB.out | apply below_alloc | apply pw_below_drewN | apply below_drew1 | refine below_set ?_ GE356.out | refine below_set ?_ GE357.out | refine below_set ?_ GE379.out | refine below_set ?_ GE386.out | refine below_set ?_ GE393.out | refine below_set ?_ GE401.out | refine below_set ?_ GE447.out) | exact HB.out))))
               replace HO_380000 := Aside0.mk (Kd.R_mono (Kd.R_told (Kd.R_told (Kd.R_old (RU HO_380000.out) hb) (Kd.R_base ho0)) (Kd.R_base ho1)) (fun _ h_ => h_.1))
               replace HO_380001 := Aside0.mk (Kd.R_mono (Kd.R_told (Kd.R_told (Kd.R_old (RU HO_380001.out) hb) (Kd.R_base ho0)) (Kd.R_base ho1)) (fun _ h_ => h_.1))
               replace HO_387000 := Aside0.mk (Kd.R_mono (Kd.R_told (Kd.R_told (Kd.R_old (RU HO_387000.out) hb) (Kd.R_base ho0)) (Kd.R_base ho1)) (fun _ h_ => h_.1))
               replace HO_387001 := Aside0.mk (Kd.R_mono (Kd.R_told (Kd.R_told (Kd.R_old (RU HO_387001.out) hb) (Kd.R_base ho0)) (Kd.R_base ho1)) (fun _ h_ => h_.1))
               replace HO_394000 := Aside0.mk (Kd.R_mono (Kd.R_told (Kd.R_told (Kd.R_old (RU HO_394000.out) hb) (Kd.R_base ho0)) (Kd.R_base ho1)) (fun _ h_ => h_.1))
               replace HO_394001 := Aside0.mk (Kd.R_mono (Kd.R_told (Kd.R_told (Kd.R_old (RU HO_394001.out) hb) (Kd.R_base ho0)) (Kd.R_base ho1)) (fun _ h_ => h_.1))
               replace HO_402000 := Aside0.mk (Kd.R_mono (Kd.R_told (Kd.R_told (Kd.R_old (RU HO_402000.out) hb) (Kd.R_base ho0)) (Kd.R_base ho1)) (fun _ h_ => h_.1))
               replace HO_402001 := Aside0.mk (Kd.R_mono (Kd.R_told (Kd.R_told (Kd.R_old (RU HO_402001.out) hb) (Kd.R_base ho0)) (Kd.R_base ho1)) (fun _ h_ => h_.1))
               replace HO430 := Aside0.mk (Kd.R_mono (Kd.R_told (Kd.R_told (Kd.R_old (RU HO430.out) hb) (Kd.R_base ho0)) (Kd.R_base ho1)) (fun _ h_ => h_.1))
               replace HO433 := Aside0.mk (Kd.R_mono (Kd.R_told (Kd.R_told (Kd.R_old (RU HO433.out) hb) (Kd.R_base ho0)) (Kd.R_base ho1)) (fun _ h_ => h_.1))
               replace BK356 := Aside0.mk (blk_below (g := gb356) (o := .cells #[.slice A0_0 l0_0.length c0_0, .slice A0_1 l0_1.length c0_1] 24 (0, 0)) (kU BK356.out) hb)
               replace BK357 := Aside0.mk (blk_below (g := gb357) (o := .cells #[.slice A1_0 l1_0.length c1_0, .slice A1_1 l1_1.length c1_1] 24 (0, 0)) (kU BK357.out) hb)
               replace BK379 := Aside0.mk (blk_below (g := gb379) (o := .cells #[.slice Ao43 t372.length co43, .slice Ao45 t375.length co45] 26 (0, 0)) (kU BK379.out) hb)
               replace BK386 := Aside0.mk (blk_below (g := gb386) (o := .cells #[.slice Ao51 t418.length co51, .slice Ao56 t419.length co56] 26 (0, 0)) (kU BK386.out) hb)
               replace BK393 := Aside0.mk (blk_below (g := gb393) (o := .cells #[.slice Ao61 t421.length co61, .slice Ao67 t422.length co67] 26 (0, 0)) (kU BK393.out) hb)
               replace BK401 := Aside0.mk (blk_below (g := gb401) (o := .cells #[.slice Ao71 t394.length co71, .slice Ao78 t397.length co78] 26 (0, 0)) (kU BK401.out) hb)
               replace BK447 := Aside0.mk (blk_below (g := gb447) (o := .cells #[.slice none 0 0, .slice none 0 0] 26 (0, 0)) (kU BK447.out) hb)
               replace HB := Aside0.mk (below_step (by repeat (first | (with_reducible first | exact HB.out | apply below_alloc | apply pw_below_drewN | apply below_drew1 | refine below_set ?_ GE356.out | refine below_set ?_ GE357.out | refine below_set ?_ GE379.out | refine below_set ?_ GE386.out | refine below_set ?_ GE393.out | refine below_set ?_ GE401.out | refine below_set ?_ GE447.out) | exact HB.out)) hb)
               (try clear hb)
               (try clear hb2)
               (try clear hk)
               (try clear hi)
               (try clear ho0)
               (try clear ho1)
               obtain ⟨Ao163, co163, eo163⟩ := Kd.R_slice HO430.out
               (first | subst eo163 | (injection eo163 with f1_ f2_ f3_; have f4_ := f1_.symm; have f5_ := f3_.symm; clear f1_ f2_ f3_; subst f4_; subst f5_))
               obtain ⟨Ao164, co164, eo164⟩ := Kd.R_slice HO433.out
               (first | subst eo164 | (injection eo164 with f1_ f2_ f3_; have f4_ := f1_.symm; have f5_ := f3_.symm; clear f1_ f2_ f3_; subst f4_; subst f5_))
               obtain ⟨Ao165, co165, eo165⟩ := Kd.R_slice HO436.out
               (first | subst eo165 | (injection eo165 with f1_ f2_ f3_; have f4_ := f1_.symm; have f5_ := f3_.symm; clear f1_ f2_ f3_; subst f4_; subst f5_))
               obtain ⟨Ao166, co166, eo166⟩ := Kd.R_slice HO439.out
               (first | subst eo166 | (injection eo166 with f1_ f2_ f3_; have f4_ := f1_.symm; have f5_ := f3_.symm; clear f1_ f2_ f3_; subst f4_; subst f5_))
               refine hK.out _ _ ⟨(blk_cell BK356.out 0).trans rfl, (blk_cell BK356.out 1).trans rfl, (blk_cell BK357.out 0).trans rfl, (blk_cell BK357.out 1).trans rfl⟩ (fun hHeld => ?_)
               clear hK K
               refine norm_ (a' := ?_) ?_ ?_
               rotate_left
               ·
                show Act.put _ (some 98) _ = _
                simp only [Act.put, List.setIfInBounds_toArray, List.set_cons_zero, List.set_cons_succ, i64_w, i32_w]
                rfl
               refine one_ (i := 4) (N := some 99) #[true, true, true, true, true, false, false, false, true, false, false] rfl rfl (one_of HT_.out (by kernel_rfl)) (by decide) (fun K hK => ?_)
               refine goes_ Try.func11 (by kernel_rfl) rfl #[.agg #[.slice Ao163 t428.length co163, .slice Ao164 t431.length co164], .agg #[.slice Ao165 t434.length co165, .slice Ao166 t437.length co166]] (by rfl) rfl rfl (by (try simp only [List.map_toArray, List.map_cons, List.map_nil]); first | done | rfl | (simp only [List.length_drop, List.length_take]; rfl)) ?_
               with_reducible refine (impl_Drop.calls kj101 _ _ t428 _ _ t431 _ _ t434 _ _ t437 t440 t443 t446 _ ?side1 ?side2 ?side3 ?side4 ?side5 ?side6 ?side7 ?side8 A148.out).mono ?_
               (case side1 => exact cU (Kd.R_reads' HO430.out).2.2)
               (case side2 => exact (Kd.R_reads' HO430.out).2.1)
               (case side3 => exact cU (Kd.R_reads' HO433.out).2.2)
               (case side4 => exact (Kd.R_reads' HO433.out).2.1)
               (case side5 => exact cU (Kd.R_reads' HO436.out).2.2)
               (case side6 => exact (Kd.R_reads' HO436.out).2.1)
               (case side7 => exact cU (Kd.R_reads' HO439.out).2.2)
               (case side8 => exact (Kd.R_reads' HO439.out).2.1)
               rintro e w167 ⟨v441, v444, rfl, ho0, ho1, hb⟩
               refine ⟨_, rfl, ?_⟩
               have HO442 := Aside0.mk (Kd.R_lower (Kd.R_new' (Kd.R_new' (Kd.R_new' (Kd.R_new' (Kd.R_new' (Kd.R_new' (Kd.R_new' (Kd.R_new' (Kd.R_new' (Kd.R_new' (Kd.R_new' (Kd.R_new' ho0 (Kd.R_lt (RU HO_380000.out))) (Kd.R_lt (RU HO_380001.out))) (Kd.R_lt (RU HO_387000.out))) (Kd.R_lt (RU HO_387001.out))) (Kd.R_lt (RU HO_394000.out))) (Kd.R_lt (RU HO_394001.out))) (Kd.R_lt (RU HO_402000.out))) (Kd.R_lt (RU HO_402001.out))) (Kd.R_lt (RU HO430.out))) (Kd.R_lt (RU HO433.out))) (Kd.R_lt (RU HO436.out))) (Kd.R_lt (RU HO439.out))) (below_size (by repeat (first | (with_reducible first | exact HB.out | apply below_alloc | apply pw_below_drewN | apply below_drew1 | refine below_set ?_ GE356.out | refine below_set ?_ GE357.out | refine below_set ?_ GE379.out | refine below_set ?_ GE386.out | refine below_set ?_ GE393.out | refine below_set ?_ GE401.out | refine below_set ?_ GE447.out) | exact HB.out))))
               have HO445 := Aside0.mk (Kd.R_lower (Kd.R_new' (Kd.R_new' (Kd.R_new' (Kd.R_new' (Kd.R_new' (Kd.R_new' (Kd.R_new' (Kd.R_new' (Kd.R_new' (Kd.R_new' (Kd.R_new' (Kd.R_new' ho1 (Kd.R_lt (RU HO_380000.out))) (Kd.R_lt (RU HO_380001.out))) (Kd.R_lt (RU HO_387000.out))) (Kd.R_lt (RU HO_387001.out))) (Kd.R_lt (RU HO_394000.out))) (Kd.R_lt (RU HO_394001.out))) (Kd.R_lt (RU HO_402000.out))) (Kd.R_lt (RU HO_402001.out))) (Kd.R_lt (RU HO430.out))) (Kd.R_lt (RU HO433.out))) (Kd.R_lt (RU HO436.out))) (Kd.R_lt (RU HO439.out))) (below_size (by repeat (first | (with_reducible first | exact HB.out | apply below_alloc | apply pw_below_drewN | apply below_drew1 | refine below_set ?_ GE356.out | refine below_set ?_ GE357.out | refine below_set ?_ GE379.out | refine below_set ?_ GE386.out | refine below_set ?_ GE393.out | refine below_set ?_ GE401.out | refine below_set ?_ GE447.out) | exact HB.out))))
               replace HO_380000 := Aside0.mk (Kd.R_mono (Kd.R_told (Kd.R_told (Kd.R_old (RU HO_380000.out) hb) (Kd.R_base ho0)) (Kd.R_base ho1)) (fun _ h_ => h_.1))
               replace HO_380001 := Aside0.mk (Kd.R_mono (Kd.R_told (Kd.R_told (Kd.R_old (RU HO_380001.out) hb) (Kd.R_base ho0)) (Kd.R_base ho1)) (fun _ h_ => h_.1))
               replace HO_387000 := Aside0.mk (Kd.R_mono (Kd.R_told (Kd.R_told (Kd.R_old (RU HO_387000.out) hb) (Kd.R_base ho0)) (Kd.R_base ho1)) (fun _ h_ => h_.1))
               replace HO_387001 := Aside0.mk (Kd.R_mono (Kd.R_told (Kd.R_told (Kd.R_old (RU HO_387001.out) hb) (Kd.R_base ho0)) (Kd.R_base ho1)) (fun _ h_ => h_.1))
               replace HO_394000 := Aside0.mk (Kd.R_mono (Kd.R_told (Kd.R_told (Kd.R_old (RU HO_394000.out) hb) (Kd.R_base ho0)) (Kd.R_base ho1)) (fun _ h_ => h_.1))
               replace HO_394001 := Aside0.mk (Kd.R_mono (Kd.R_told (Kd.R_told (Kd.R_old (RU HO_394001.out) hb) (Kd.R_base ho0)) (Kd.R_base ho1)) (fun _ h_ => h_.1))
               replace HO_402000 := Aside0.mk (Kd.R_mono (Kd.R_told (Kd.R_told (Kd.R_old (RU HO_402000.out) hb) (Kd.R_base ho0)) (Kd.R_base ho1)) (fun _ h_ => h_.1))
               replace HO_402001 := Aside0.mk (Kd.R_mono (Kd.R_told (Kd.R_told (Kd.R_old (RU HO_402001.out) hb) (Kd.R_base ho0)) (Kd.R_base ho1)) (fun _ h_ => h_.1))
               replace HO430 := Aside0.mk (Kd.R_mono (Kd.R_told (Kd.R_told (Kd.R_old (RU HO430.out) hb) (Kd.R_base ho0)) (Kd.R_base ho1)) (fun _ h_ => h_.1))
               replace HO433 := Aside0.mk (Kd.R_mono (Kd.R_told (Kd.R_told (Kd.R_old (RU HO433.out) hb) (Kd.R_base ho0)) (Kd.R_base ho1)) (fun _ h_ => h_.1))
               replace HO436 := Aside0.mk (Kd.R_mono (Kd.R_told (Kd.R_told (Kd.R_old (RU HO436.out) hb) (Kd.R_base ho0)) (Kd.R_base ho1)) (fun _ h_ => h_.1))
               replace HO439 := Aside0.mk (Kd.R_mono (Kd.R_told (Kd.R_told (Kd.R_old (RU HO439.out) hb) (Kd.R_base ho0)) (Kd.R_base ho1)) (fun _ h_ => h_.1))
               replace BK356 := Aside0.mk (blk_below (g := gb356) (o := .cells #[.slice A0_0 l0_0.length c0_0, .slice A0_1 l0_1.length c0_1] 24 (0, 0)) (kU BK356.out) hb)
               replace BK357 := Aside0.mk (blk_below (g := gb357) (o := .cells #[.slice A1_0 l1_0.length c1_0, .slice A1_1 l1_1.length c1_1] 24 (0, 0)) (kU BK357.out) hb)
               replace BK379 := Aside0.mk (blk_below (g := gb379) (o := .cells #[.slice Ao43 t372.length co43, .slice Ao45 t375.length co45] 26 (0, 0)) (kU BK379.out) hb)
               replace BK386 := Aside0.mk (blk_below (g := gb386) (o := .cells #[.slice Ao51 t418.length co51, .slice Ao56 t419.length co56] 26 (0, 0)) (kU BK386.out) hb)
               replace BK393 := Aside0.mk (blk_below (g := gb393) (o := .cells #[.slice Ao61 t421.length co61, .slice Ao67 t422.length co67] 26 (0, 0)) (kU BK393.out) hb)
               replace BK401 := Aside0.mk (blk_below (g := gb401) (o := .cells #[.slice Ao71 t394.length co71, .slice Ao78 t397.length co78] 26 (0, 0)) (kU BK401.out) hb)
               replace BK447 := Aside0.mk (blk_below (g := gb447) (o := .cells #[.slice none 0 0, .slice none 0 0] 26 (0, 0)) (kU BK447.out) hb)
               replace HB := Aside0.mk (below_step (by repeat (first | (with_reducible first | exact HB.out | apply below_alloc | apply pw_below_drewN | apply below_drew1 | refine below_set ?_ GE356.out | refine below_set ?_ GE357.out | refine below_set ?_ GE379.out | refine below_set ?_ GE386.out | refine below_set ?_ GE393.out | refine below_set ?_ GE401.out | refine below_set ?_ GE447.out) | exact HB.out)) hb)
               (try clear hb)
               (try clear hb2)
               (try clear hk)
               (try clear hi)
               (try clear ho0)
               (try clear ho1)
               refine hK.out _ _ ⟨(blk_cell BK356.out 0).trans rfl, (blk_cell BK356.out 1).trans rfl, (blk_cell BK357.out 0).trans rfl, (blk_cell BK357.out 1).trans rfl⟩ (fun hHeld => ?_)
               clear hK K
               refine norm_ (a' := ?_) ?_ ?_
               rotate_left
               ·
                show Act.put _ (some 99) _ = _
                simp only [Act.put, List.setIfInBounds_toArray, List.set_cons_zero, List.set_cons_succ, i64_w, i32_w]
                rfl
               refine pure_ (i := 5) (N := some 94) (v := ?_) (a' := ?_) #[true, true, true, true, true, true, false, false, true, false, false] rfl rfl (any_of HT_.out (by kernel_rfl)) (fun _ _ _ h => h) (Or.inl ⟨by rfl, ?_⟩) ?_ ?_
               rotate_left
               ·
                intro w'
                go_simp
                with_reducible rfl
               rotate_left
               ·
                simp only [Act.put, List.setIfInBounds_toArray, List.set_cons_zero, List.set_cons_succ, i64_w, i32_w]
                rfl
               refine pure_ (i := 6) (N := some 100) (v := ?_) (a' := ?_) #[true, true, true, true, true, true, true, false, true, false, false] rfl rfl (any_of HT_.out (by kernel_rfl)) (fun _ _ _ h => h) (Or.inl ⟨by rfl, ?_⟩) ?_ ?_
               rotate_left
               ·
                intro w'
                go_simp
                with_reducible rfl
               rotate_left
               ·
                simp only [Act.put, List.setIfInBounds_toArray, List.set_cons_zero, List.set_cons_succ, i64_w, i32_w]
                rfl
               refine pure_ (i := 7) (N := some 101) (v := ?_) (a' := ?_) #[true, true, true, true, true, true, true, true, true, false, false] rfl rfl (any_of HT_.out (by kernel_rfl)) (fun _ _ _ h => h) (Or.inl ⟨by rfl, ?_⟩) ?_ ?_
               rotate_left
               ·
                intro w'
                go_simp
                with_reducible rfl
               rotate_left
               ·
                simp only [Act.put, List.setIfInBounds_toArray, List.set_cons_zero, List.set_cons_succ, i64_w, i32_w]
                rfl
               exact norm_ (by simp only [putAll, Act.put, List.setIfInBounds_toArray, List.set_cons_zero, List.set_cons_succ]) (hCont (.slice Ao163 t428.length co163, .slice Ao164 t431.length co164, .slice Ao165 t434.length co165, .slice Ao166 t437.length co166, v441, v444, gb447) _ ⟨hHeld, (by (with_reducible repeat (first | apply Kd.R_alloc | apply Kd.R_drewN | apply Kd.R_drew)); exact Kd.R_mono HO430.out (fun _ hk => ⟨hk.1.1.1.1.1.1.1.1.1.1.1.1, ⟨hk.1.1.1.2, ⟨hk.1.1.2, ⟨hk.1.2, ⟨hk.2, ⟨hk.1.1.1.1.1.1.1.1.1.1.1.2, ⟨hk.1.1.1.1.1.1.1.1.1.1.2, ⟨hk.1.1.1.1.1.1.1.1.1.2, ⟨hk.1.1.1.1.1.1.1.1.2, ⟨hk.1.1.1.1.1.1.1.2, ⟨hk.1.1.1.1.1.1.2, ⟨hk.1.1.1.1.1.2, hk.1.1.1.1.2⟩⟩⟩⟩⟩⟩⟩⟩⟩⟩⟩⟩)), (by (with_reducible repeat (first | apply Kd.R_alloc | apply Kd.R_drewN | apply Kd.R_drew)); exact Kd.R_mono HO433.out (fun _ hk => ⟨hk.1.1.1.1.1.1.1.1.1.1.1.1, ⟨hk.1.1.1.2, ⟨hk.1.1.2, ⟨hk.1.2, ⟨hk.2, ⟨hk.1.1.1.1.1.1.1.1.1.1.1.2, ⟨hk.1.1.1.1.1.1.1.1.1.1.2, ⟨hk.1.1.1.1.1.1.1.1.1.2, ⟨hk.1.1.1.1.1.1.1.1.2, ⟨hk.1.1.1.1.1.1.1.2, ⟨hk.1.1.1.1.1.1.2, ⟨hk.1.1.1.1.1.2, hk.1.1.1.1.2⟩⟩⟩⟩⟩⟩⟩⟩⟩⟩⟩⟩)), (by (with_reducible repeat (first | apply Kd.R_alloc | apply Kd.R_drewN | apply Kd.R_drew)); exact Kd.R_mono HO436.out (fun _ hk => ⟨hk.1.1.1.2, ⟨hk.1.1.2, ⟨hk.1.1.1.1.1.1.1.1.1.1.1.1, ⟨hk.1.2, ⟨hk.2, ⟨hk.1.1.1.1.1.1.1.1.1.1.1.2, ⟨hk.1.1.1.1.1.1.1.1.1.1.2, ⟨hk.1.1.1.1.1.1.1.1.1.2, ⟨hk.1.1.1.1.1.1.1.1.2, ⟨hk.1.1.1.1.1.1.1.2, ⟨hk.1.1.1.1.1.1.2, ⟨hk.1.1.1.1.1.2, hk.1.1.1.1.2⟩⟩⟩⟩⟩⟩⟩⟩⟩⟩⟩⟩)), (by (with_reducible repeat (first | apply Kd.R_alloc | apply Kd.R_drewN | apply Kd.R_drew)); exact Kd.R_mono HO439.out (fun _ hk => ⟨hk.1.1.1.2, ⟨hk.1.1.2, ⟨hk.1.1.1.1.1.1.1.1.1.1.1.1, ⟨hk.1.2, ⟨hk.2, ⟨hk.1.1.1.1.1.1.1.1.1.1.1.2, ⟨hk.1.1.1.1.1.1.1.1.1.1.2, ⟨hk.1.1.1.1.1.1.1.1.1.2, ⟨hk.1.1.1.1.1.1.1.1.2, ⟨hk.1.1.1.1.1.1.1.2, ⟨hk.1.1.1.1.1.1.2, ⟨hk.1.1.1.1.1.2, hk.1.1.1.1.2⟩⟩⟩⟩⟩⟩⟩⟩⟩⟩⟩⟩)), (by (with_reducible repeat (first | apply Kd.R_alloc | apply Kd.R_drewN | apply Kd.R_drew)); exact Kd.R_mono HO442.out (fun _ hk => ⟨hk.1.1.1.2, ⟨hk.1.1.2, ⟨hk.1.2, ⟨hk.2, ⟨hk.1.1.1.1.1.1.1.1.1.1.1.1, ⟨hk.1.1.1.1.1.1.1.1.1.1.1.2, ⟨hk.1.1.1.1.1.1.1.1.1.1.2, ⟨hk.1.1.1.1.1.1.1.1.1.2, ⟨hk.1.1.1.1.1.1.1.1.2, ⟨hk.1.1.1.1.1.1.1.2, ⟨hk.1.1.1.1.1.1.2, ⟨hk.1.1.1.1.1.2, hk.1.1.1.1.2⟩⟩⟩⟩⟩⟩⟩⟩⟩⟩⟩⟩)), (by (with_reducible repeat (first | apply Kd.R_alloc | apply Kd.R_drewN | apply Kd.R_drew)); exact Kd.R_mono HO445.out (fun _ hk => ⟨hk.1.1.1.2, ⟨hk.1.1.2, ⟨hk.1.2, ⟨hk.2, ⟨hk.1.1.1.1.1.1.1.1.1.1.1.1, ⟨hk.1.1.1.1.1.1.1.1.1.1.1.2, ⟨hk.1.1.1.1.1.1.1.1.1.1.2, ⟨hk.1.1.1.1.1.1.1.1.1.2, ⟨hk.1.1.1.1.1.1.1.1.2, ⟨hk.1.1.1.1.1.1.1.2, ⟨hk.1.1.1.1.1.1.2, ⟨hk.1.1.1.1.1.2, hk.1.1.1.1.2⟩⟩⟩⟩⟩⟩⟩⟩⟩⟩⟩⟩)), (by (with_reducible repeat (first | apply Kd.R_alloc | apply Kd.R_drewN | apply Kd.R_drew)); exact Kd.R_mono HO_380000.out (fun _ hk => ⟨hk.1.1.1.1.1.2, ⟨hk.1.1.1.1.2, ⟨hk.1.1.1.2, ⟨hk.1.1.2, ⟨hk.1.2, ⟨hk.2, ⟨hk.1.1.1.1.1.1.1, ⟨hk.1.1.1.1.1.1.2.1, ⟨hk.1.1.1.1.1.1.2.2.1, ⟨hk.1.1.1.1.1.1.2.2.2.1, ⟨hk.1.1.1.1.1.1.2.2.2.2.1, ⟨hk.1.1.1.1.1.1.2.2.2.2.2.1, hk.1.1.1.1.1.1.2.2.2.2.2.2⟩⟩⟩⟩⟩⟩⟩⟩⟩⟩⟩⟩)), (by (with_reducible repeat (first | apply Kd.R_alloc | apply Kd.R_drewN | apply Kd.R_drew)); exact Kd.R_mono HO_380001.out (fun _ hk => ⟨hk.1.1.1.1.1.2, ⟨hk.1.1.1.1.2, ⟨hk.1.1.1.2, ⟨hk.1.1.2, ⟨hk.1.2, ⟨hk.2, ⟨hk.1.1.1.1.1.1.1, ⟨hk.1.1.1.1.1.1.2.1, ⟨hk.1.1.1.1.1.1.2.2.1, ⟨hk.1.1.1.1.1.1.2.2.2.1, ⟨hk.1.1.1.1.1.1.2.2.2.2.1, ⟨hk.1.1.1.1.1.1.2.2.2.2.2.1, hk.1.1.1.1.1.1.2.2.2.2.2.2⟩⟩⟩⟩⟩⟩⟩⟩⟩⟩⟩⟩)), (by (with_reducible repeat (first | apply Kd.R_alloc | apply Kd.R_drewN | apply Kd.R_drew)); exact Kd.R_mono HO_387000.out (fun _ hk => ⟨hk.1.1.1.1.1.2, ⟨hk.1.1.1.1.2, ⟨hk.1.1.1.2, ⟨hk.1.1.2, ⟨hk.1.2, ⟨hk.2, ⟨hk.1.1.1.1.1.1.1, ⟨hk.1.1.1.1.1.1.2.1, ⟨hk.1.1.1.1.1.1.2.2.1, ⟨hk.1.1.1.1.1.1.2.2.2.1, ⟨hk.1.1.1.1.1.1.2.2.2.2.1, ⟨hk.1.1.1.1.1.1.2.2.2.2.2.1, hk.1.1.1.1.1.1.2.2.2.2.2.2⟩⟩⟩⟩⟩⟩⟩⟩⟩⟩⟩⟩)), (by (with_reducible repeat (first | apply Kd.R_alloc | apply Kd.R_drewN | apply Kd.R_drew)); exact Kd.R_mono HO_387001.out (fun _ hk => ⟨hk.1.1.1.1.1.2, ⟨hk.1.1.1.1.2, ⟨hk.1.1.1.2, ⟨hk.1.1.2, ⟨hk.1.2, ⟨hk.2, ⟨hk.1.1.1.1.1.1.1, ⟨hk.1.1.1.1.1.1.2.1, ⟨hk.1.1.1.1.1.1.2.2.1, ⟨hk.1.1.1.1.1.1.2.2.2.1, ⟨hk.1.1.1.1.1.1.2.2.2.2.1, ⟨hk.1.1.1.1.1.1.2.2.2.2.2.1, hk.1.1.1.1.1.1.2.2.2.2.2.2⟩⟩⟩⟩⟩⟩⟩⟩⟩⟩⟩⟩)), (by (with_reducible repeat (first | apply Kd.R_alloc | apply Kd.R_drewN | apply Kd.R_drew)); exact Kd.R_mono HO_394000.out (fun _ hk => ⟨hk.1.1.1.1.1.2, ⟨hk.1.1.1.1.2, ⟨hk.1.1.1.2, ⟨hk.1.1.2, ⟨hk.1.2, ⟨hk.2, ⟨hk.1.1.1.1.1.1.1, ⟨hk.1.1.1.1.1.1.2.1, ⟨hk.1.1.1.1.1.1.2.2.1, ⟨hk.1.1.1.1.1.1.2.2.2.1, ⟨hk.1.1.1.1.1.1.2.2.2.2.1, ⟨hk.1.1.1.1.1.1.2.2.2.2.2.1, hk.1.1.1.1.1.1.2.2.2.2.2.2⟩⟩⟩⟩⟩⟩⟩⟩⟩⟩⟩⟩)), (by (with_reducible repeat (first | apply Kd.R_alloc | apply Kd.R_drewN | apply Kd.R_drew)); exact Kd.R_mono HO_394001.out (fun _ hk => ⟨hk.1.1.1.1.1.2, ⟨hk.1.1.1.1.2, ⟨hk.1.1.1.2, ⟨hk.1.1.2, ⟨hk.1.2, ⟨hk.2, ⟨hk.1.1.1.1.1.1.1, ⟨hk.1.1.1.1.1.1.2.1, ⟨hk.1.1.1.1.1.1.2.2.1, ⟨hk.1.1.1.1.1.1.2.2.2.1, ⟨hk.1.1.1.1.1.1.2.2.2.2.1, ⟨hk.1.1.1.1.1.1.2.2.2.2.2.1, hk.1.1.1.1.1.1.2.2.2.2.2.2⟩⟩⟩⟩⟩⟩⟩⟩⟩⟩⟩⟩)), (by (with_reducible repeat (first | apply Kd.R_alloc | apply Kd.R_drewN | apply Kd.R_drew)); exact Kd.R_mono HO_402000.out (fun _ hk => ⟨hk.1.1.1.1.1.2, ⟨hk.1.1.1.1.2, ⟨hk.1.1.1.2, ⟨hk.1.1.2, ⟨hk.1.2, ⟨hk.2, ⟨hk.1.1.1.1.1.1.1, ⟨hk.1.1.1.1.1.1.2.1, ⟨hk.1.1.1.1.1.1.2.2.1, ⟨hk.1.1.1.1.1.1.2.2.2.1, ⟨hk.1.1.1.1.1.1.2.2.2.2.1, ⟨hk.1.1.1.1.1.1.2.2.2.2.2.1, hk.1.1.1.1.1.1.2.2.2.2.2.2⟩⟩⟩⟩⟩⟩⟩⟩⟩⟩⟩⟩)), (by (with_reducible repeat (first | apply Kd.R_alloc | apply Kd.R_drewN | apply Kd.R_drew)); exact Kd.R_mono HO_402001.out (fun _ hk => ⟨hk.1.1.1.1.1.2, ⟨hk.1.1.1.1.2, ⟨hk.1.1.1.2, ⟨hk.1.1.2, ⟨hk.1.2, ⟨hk.2, ⟨hk.1.1.1.1.1.1.1, ⟨hk.1.1.1.1.1.1.2.1, ⟨hk.1.1.1.1.1.1.2.2.1, ⟨hk.1.1.1.1.1.1.2.2.2.1, ⟨hk.1.1.1.1.1.1.2.2.2.2.1, ⟨hk.1.1.1.1.1.1.2.2.2.2.2.1, hk.1.1.1.1.1.1.2.2.2.2.2.2⟩⟩⟩⟩⟩⟩⟩⟩⟩⟩⟩⟩)), (kU BK356.out), (kU BK357.out), (kU BK379.out), (kU BK386.out), (kU BK393.out), (kU BK401.out), (kU BK447.out), GW447.out, GE447.out, NB356_447.out, NB447_356.out, NB357_447.out, NB447_357.out, NB379_447.out, NB447_379.out, NB386_447.out, NB447_386.out, NB393_447.out, NB447_393.out, NB401_447.out, NB447_401.out, (by repeat (first | (with_reducible first | exact HB.out | apply below_alloc | apply pw_below_drewN | apply below_drew1 | refine below_set ?_ GE356.out | refine below_set ?_ GE357.out | refine below_set ?_ GE379.out | refine below_set ?_ GE386.out | refine below_set ?_ GE393.out | refine below_set ?_ GE401.out | refine below_set ?_ GE447.out) | exact HB.out))⟩)
             rintro ⟨v429, v432, v435, v438, v441, v444, gb447⟩ w168 ⟨hS_, h0_, h1_, h2_, h3_, h4_, h5_, h6_, h7_, h8_, h9_, h10_, h11_, h12_, h13_, h14_, h15_, h16_, h17_, h18_, h19_, h20_, h21_, h22_, h23_, h24_, h25_, h26_, h27_, h28_, h29_, h30_, h31_, h32_, h33_, h34_, h35_⟩
             have n0_ : Aside0 (Kd.R (Kd.int .i64) 3 w168 w.heap.size (fun k_ => some k_ ≠ (v432 : Value).ownBlock ∧ some k_ ≠ (v435 : Value).ownBlock ∧ some k_ ≠ (v438 : Value).ownBlock ∧ some k_ ≠ (v441 : Value).ownBlock ∧ some k_ ≠ (v444 : Value).ownBlock ∧ some k_ ≠ (.slice Ao43 t372.length co43 : Value).ownBlock ∧ some k_ ≠ (.slice Ao45 t375.length co45 : Value).ownBlock ∧ some k_ ≠ (.slice Ao51 t418.length co51 : Value).ownBlock ∧ some k_ ≠ (.slice Ao56 t419.length co56 : Value).ownBlock ∧ some k_ ≠ (.slice Ao61 t421.length co61 : Value).ownBlock ∧ some k_ ≠ (.slice Ao67 t422.length co67 : Value).ownBlock ∧ some k_ ≠ (.slice Ao71 t394.length co71 : Value).ownBlock ∧ some k_ ≠ (.slice Ao78 t397.length co78 : Value).ownBlock) v429 t428) := ⟨h0_⟩
             have n1_ : Aside0 (Kd.R (Kd.int .i64) 3 w168 w.heap.size (fun k_ => some k_ ≠ (v429 : Value).ownBlock ∧ some k_ ≠ (v435 : Value).ownBlock ∧ some k_ ≠ (v438 : Value).ownBlock ∧ some k_ ≠ (v441 : Value).ownBlock ∧ some k_ ≠ (v444 : Value).ownBlock ∧ some k_ ≠ (.slice Ao43 t372.length co43 : Value).ownBlock ∧ some k_ ≠ (.slice Ao45 t375.length co45 : Value).ownBlock ∧ some k_ ≠ (.slice Ao51 t418.length co51 : Value).ownBlock ∧ some k_ ≠ (.slice Ao56 t419.length co56 : Value).ownBlock ∧ some k_ ≠ (.slice Ao61 t421.length co61 : Value).ownBlock ∧ some k_ ≠ (.slice Ao67 t422.length co67 : Value).ownBlock ∧ some k_ ≠ (.slice Ao71 t394.length co71 : Value).ownBlock ∧ some k_ ≠ (.slice Ao78 t397.length co78 : Value).ownBlock) v432 t431) := ⟨h1_⟩
             have n2_ : Aside0 (Kd.R (Kd.int .i64) 3 w168 w.heap.size (fun k_ => some k_ ≠ (v429 : Value).ownBlock ∧ some k_ ≠ (v432 : Value).ownBlock ∧ some k_ ≠ (v438 : Value).ownBlock ∧ some k_ ≠ (v441 : Value).ownBlock ∧ some k_ ≠ (v444 : Value).ownBlock ∧ some k_ ≠ (.slice Ao43 t372.length co43 : Value).ownBlock ∧ some k_ ≠ (.slice Ao45 t375.length co45 : Value).ownBlock ∧ some k_ ≠ (.slice Ao51 t418.length co51 : Value).ownBlock ∧ some k_ ≠ (.slice Ao56 t419.length co56 : Value).ownBlock ∧ some k_ ≠ (.slice Ao61 t421.length co61 : Value).ownBlock ∧ some k_ ≠ (.slice Ao67 t422.length co67 : Value).ownBlock ∧ some k_ ≠ (.slice Ao71 t394.length co71 : Value).ownBlock ∧ some k_ ≠ (.slice Ao78 t397.length co78 : Value).ownBlock) v435 t434) := ⟨h2_⟩
             have n3_ : Aside0 (Kd.R (Kd.int .i64) 3 w168 w.heap.size (fun k_ => some k_ ≠ (v429 : Value).ownBlock ∧ some k_ ≠ (v432 : Value).ownBlock ∧ some k_ ≠ (v435 : Value).ownBlock ∧ some k_ ≠ (v441 : Value).ownBlock ∧ some k_ ≠ (v444 : Value).ownBlock ∧ some k_ ≠ (.slice Ao43 t372.length co43 : Value).ownBlock ∧ some k_ ≠ (.slice Ao45 t375.length co45 : Value).ownBlock ∧ some k_ ≠ (.slice Ao51 t418.length co51 : Value).ownBlock ∧ some k_ ≠ (.slice Ao56 t419.length co56 : Value).ownBlock ∧ some k_ ≠ (.slice Ao61 t421.length co61 : Value).ownBlock ∧ some k_ ≠ (.slice Ao67 t422.length co67 : Value).ownBlock ∧ some k_ ≠ (.slice Ao71 t394.length co71 : Value).ownBlock ∧ some k_ ≠ (.slice Ao78 t397.length co78 : Value).ownBlock) v438 t437) := ⟨h3_⟩
             have n4_ : Aside0 (Kd.R (Kd.int .i64) 3 w168 w.heap.size (fun k_ => some k_ ≠ (v429 : Value).ownBlock ∧ some k_ ≠ (v432 : Value).ownBlock ∧ some k_ ≠ (v435 : Value).ownBlock ∧ some k_ ≠ (v438 : Value).ownBlock ∧ some k_ ≠ (v444 : Value).ownBlock ∧ some k_ ≠ (.slice Ao43 t372.length co43 : Value).ownBlock ∧ some k_ ≠ (.slice Ao45 t375.length co45 : Value).ownBlock ∧ some k_ ≠ (.slice Ao51 t418.length co51 : Value).ownBlock ∧ some k_ ≠ (.slice Ao56 t419.length co56 : Value).ownBlock ∧ some k_ ≠ (.slice Ao61 t421.length co61 : Value).ownBlock ∧ some k_ ≠ (.slice Ao67 t422.length co67 : Value).ownBlock ∧ some k_ ≠ (.slice Ao71 t394.length co71 : Value).ownBlock ∧ some k_ ≠ (.slice Ao78 t397.length co78 : Value).ownBlock) v441 t440) := ⟨h4_⟩
             have n5_ : Aside0 (Kd.R (Kd.int .i64) 3 w168 w.heap.size (fun k_ => some k_ ≠ (v429 : Value).ownBlock ∧ some k_ ≠ (v432 : Value).ownBlock ∧ some k_ ≠ (v435 : Value).ownBlock ∧ some k_ ≠ (v438 : Value).ownBlock ∧ some k_ ≠ (v441 : Value).ownBlock ∧ some k_ ≠ (.slice Ao43 t372.length co43 : Value).ownBlock ∧ some k_ ≠ (.slice Ao45 t375.length co45 : Value).ownBlock ∧ some k_ ≠ (.slice Ao51 t418.length co51 : Value).ownBlock ∧ some k_ ≠ (.slice Ao56 t419.length co56 : Value).ownBlock ∧ some k_ ≠ (.slice Ao61 t421.length co61 : Value).ownBlock ∧ some k_ ≠ (.slice Ao67 t422.length co67 : Value).ownBlock ∧ some k_ ≠ (.slice Ao71 t394.length co71 : Value).ownBlock ∧ some k_ ≠ (.slice Ao78 t397.length co78 : Value).ownBlock) v444 t443) := ⟨h5_⟩
             have n6_ : Aside0 (Kd.R (Kd.int .i64) 3 w168 w.heap.size (fun k_ => some k_ ≠ (v429 : Value).ownBlock ∧ some k_ ≠ (v432 : Value).ownBlock ∧ some k_ ≠ (v435 : Value).ownBlock ∧ some k_ ≠ (v438 : Value).ownBlock ∧ some k_ ≠ (v441 : Value).ownBlock ∧ some k_ ≠ (v444 : Value).ownBlock ∧ some k_ ≠ (.slice Ao45 t375.length co45 : Value).ownBlock ∧ some k_ ≠ (.slice Ao51 t418.length co51 : Value).ownBlock ∧ some k_ ≠ (.slice Ao56 t419.length co56 : Value).ownBlock ∧ some k_ ≠ (.slice Ao61 t421.length co61 : Value).ownBlock ∧ some k_ ≠ (.slice Ao67 t422.length co67 : Value).ownBlock ∧ some k_ ≠ (.slice Ao71 t394.length co71 : Value).ownBlock ∧ some k_ ≠ (.slice Ao78 t397.length co78 : Value).ownBlock) (.slice Ao43 t372.length co43) t372) := ⟨h6_⟩
             have n7_ : Aside0 (Kd.R (Kd.int .i64) 3 w168 w.heap.size (fun k_ => some k_ ≠ (v429 : Value).ownBlock ∧ some k_ ≠ (v432 : Value).ownBlock ∧ some k_ ≠ (v435 : Value).ownBlock ∧ some k_ ≠ (v438 : Value).ownBlock ∧ some k_ ≠ (v441 : Value).ownBlock ∧ some k_ ≠ (v444 : Value).ownBlock ∧ some k_ ≠ (.slice Ao43 t372.length co43 : Value).ownBlock ∧ some k_ ≠ (.slice Ao51 t418.length co51 : Value).ownBlock ∧ some k_ ≠ (.slice Ao56 t419.length co56 : Value).ownBlock ∧ some k_ ≠ (.slice Ao61 t421.length co61 : Value).ownBlock ∧ some k_ ≠ (.slice Ao67 t422.length co67 : Value).ownBlock ∧ some k_ ≠ (.slice Ao71 t394.length co71 : Value).ownBlock ∧ some k_ ≠ (.slice Ao78 t397.length co78 : Value).ownBlock) (.slice Ao45 t375.length co45) t375) := ⟨h7_⟩
             have n8_ : Aside0 (Kd.R (Kd.int .i64) 3 w168 w.heap.size (fun k_ => some k_ ≠ (v429 : Value).ownBlock ∧ some k_ ≠ (v432 : Value).ownBlock ∧ some k_ ≠ (v435 : Value).ownBlock ∧ some k_ ≠ (v438 : Value).ownBlock ∧ some k_ ≠ (v441 : Value).ownBlock ∧ some k_ ≠ (v444 : Value).ownBlock ∧ some k_ ≠ (.slice Ao43 t372.length co43 : Value).ownBlock ∧ some k_ ≠ (.slice Ao45 t375.length co45 : Value).ownBlock ∧ some k_ ≠ (.slice Ao56 t419.length co56 : Value).ownBlock ∧ some k_ ≠ (.slice Ao61 t421.length co61 : Value).ownBlock ∧ some k_ ≠ (.slice Ao67 t422.length co67 : Value).ownBlock ∧ some k_ ≠ (.slice Ao71 t394.length co71 : Value).ownBlock ∧ some k_ ≠ (.slice Ao78 t397.length co78 : Value).ownBlock) (.slice Ao51 t418.length co51) t418) := ⟨h8_⟩
             have n9_ : Aside0 (Kd.R (Kd.int .i64) 3 w168 w.heap.size (fun k_ => some k_ ≠ (v429 : Value).ownBlock ∧ some k_ ≠ (v432 : Value).ownBlock ∧ some k_ ≠ (v435 : Value).ownBlock ∧ some k_ ≠ (v438 : Value).ownBlock ∧ some k_ ≠ (v441 : Value).ownBlock ∧ some k_ ≠ (v444 : Value).ownBlock ∧ some k_ ≠ (.slice Ao43 t372.length co43 : Value).ownBlock ∧ some k_ ≠ (.slice Ao45 t375.length co45 : Value).ownBlock ∧ some k_ ≠ (.slice Ao51 t418.length co51 : Value).ownBlock ∧ some k_ ≠ (.slice Ao61 t421.length co61 : Value).ownBlock ∧ some k_ ≠ (.slice Ao67 t422.length co67 : Value).ownBlock ∧ some k_ ≠ (.slice Ao71 t394.length co71 : Value).ownBlock ∧ some k_ ≠ (.slice Ao78 t397.length co78 : Value).ownBlock) (.slice Ao56 t419.length co56) t419) := ⟨h9_⟩
             have n10_ : Aside0 (Kd.R (Kd.int .i64) 3 w168 w.heap.size (fun k_ => some k_ ≠ (v429 : Value).ownBlock ∧ some k_ ≠ (v432 : Value).ownBlock ∧ some k_ ≠ (v435 : Value).ownBlock ∧ some k_ ≠ (v438 : Value).ownBlock ∧ some k_ ≠ (v441 : Value).ownBlock ∧ some k_ ≠ (v444 : Value).ownBlock ∧ some k_ ≠ (.slice Ao43 t372.length co43 : Value).ownBlock ∧ some k_ ≠ (.slice Ao45 t375.length co45 : Value).ownBlock ∧ some k_ ≠ (.slice Ao51 t418.length co51 : Value).ownBlock ∧ some k_ ≠ (.slice Ao56 t419.length co56 : Value).ownBlock ∧ some k_ ≠ (.slice Ao67 t422.length co67 : Value).ownBlock ∧ some k_ ≠ (.slice Ao71 t394.length co71 : Value).ownBlock ∧ some k_ ≠ (.slice Ao78 t397.length co78 : Value).ownBlock) (.slice Ao61 t421.length co61) t421) := ⟨h10_⟩
             have n11_ : Aside0 (Kd.R (Kd.int .i64) 3 w168 w.heap.size (fun k_ => some k_ ≠ (v429 : Value).ownBlock ∧ some k_ ≠ (v432 : Value).ownBlock ∧ some k_ ≠ (v435 : Value).ownBlock ∧ some k_ ≠ (v438 : Value).ownBlock ∧ some k_ ≠ (v441 : Value).ownBlock ∧ some k_ ≠ (v444 : Value).ownBlock ∧ some k_ ≠ (.slice Ao43 t372.length co43 : Value).ownBlock ∧ some k_ ≠ (.slice Ao45 t375.length co45 : Value).ownBlock ∧ some k_ ≠ (.slice Ao51 t418.length co51 : Value).ownBlock ∧ some k_ ≠ (.slice Ao56 t419.length co56 : Value).ownBlock ∧ some k_ ≠ (.slice Ao61 t421.length co61 : Value).ownBlock ∧ some k_ ≠ (.slice Ao71 t394.length co71 : Value).ownBlock ∧ some k_ ≠ (.slice Ao78 t397.length co78 : Value).ownBlock) (.slice Ao67 t422.length co67) t422) := ⟨h11_⟩
             have n12_ : Aside0 (Kd.R (Kd.int .i64) 3 w168 w.heap.size (fun k_ => some k_ ≠ (v429 : Value).ownBlock ∧ some k_ ≠ (v432 : Value).ownBlock ∧ some k_ ≠ (v435 : Value).ownBlock ∧ some k_ ≠ (v438 : Value).ownBlock ∧ some k_ ≠ (v441 : Value).ownBlock ∧ some k_ ≠ (v444 : Value).ownBlock ∧ some k_ ≠ (.slice Ao43 t372.length co43 : Value).ownBlock ∧ some k_ ≠ (.slice Ao45 t375.length co45 : Value).ownBlock ∧ some k_ ≠ (.slice Ao51 t418.length co51 : Value).ownBlock ∧ some k_ ≠ (.slice Ao56 t419.length co56 : Value).ownBlock ∧ some k_ ≠ (.slice Ao61 t421.length co61 : Value).ownBlock ∧ some k_ ≠ (.slice Ao67 t422.length co67 : Value).ownBlock ∧ some k_ ≠ (.slice Ao78 t397.length co78 : Value).ownBlock) (.slice Ao71 t394.length co71) t425) := ⟨h12_⟩
             have n13_ : Aside0 (Kd.R (Kd.int .i64) 3 w168 w.heap.size (fun k_ => some k_ ≠ (v429 : Value).ownBlock ∧ some k_ ≠ (v432 : Value).ownBlock ∧ some k_ ≠ (v435 : Value).ownBlock ∧ some k_ ≠ (v438 : Value).ownBlock ∧ some k_ ≠ (v441 : Value).ownBlock ∧ some k_ ≠ (v444 : Value).ownBlock ∧ some k_ ≠ (.slice Ao43 t372.length co43 : Value).ownBlock ∧ some k_ ≠ (.slice Ao45 t375.length co45 : Value).ownBlock ∧ some k_ ≠ (.slice Ao51 t418.length co51 : Value).ownBlock ∧ some k_ ≠ (.slice Ao56 t419.length co56 : Value).ownBlock ∧ some k_ ≠ (.slice Ao61 t421.length co61 : Value).ownBlock ∧ some k_ ≠ (.slice Ao67 t422.length co67 : Value).ownBlock ∧ some k_ ≠ (.slice Ao71 t394.length co71 : Value).ownBlock) (.slice Ao78 t397.length co78) t426) := ⟨h13_⟩
             have n14_ : Aside0 (w168.heap[gb356]? = some (.cells #[.slice A0_0 l0_0.length c0_0, .slice A0_1 l0_1.length c0_1] 24 (0, 0))) := ⟨h14_⟩
             have n15_ : Aside0 (w168.heap[gb357]? = some (.cells #[.slice A1_0 l1_0.length c1_0, .slice A1_1 l1_1.length c1_1] 24 (0, 0))) := ⟨h15_⟩
             have n16_ : Aside0 (w168.heap[gb379]? = some (.cells #[.slice Ao43 t372.length co43, .slice Ao45 t375.length co45] 26 (0, 0))) := ⟨h16_⟩
             have n17_ : Aside0 (w168.heap[gb386]? = some (.cells #[.slice Ao51 t418.length co51, .slice Ao56 t419.length co56] 26 (0, 0))) := ⟨h17_⟩
             have n18_ : Aside0 (w168.heap[gb393]? = some (.cells #[.slice Ao61 t421.length co61, .slice Ao67 t422.length co67] 26 (0, 0))) := ⟨h18_⟩
             have n19_ : Aside0 (w168.heap[gb401]? = some (.cells #[.slice Ao71 t394.length co71, .slice Ao78 t397.length co78] 26 (0, 0))) := ⟨h19_⟩
             have n20_ : Aside0 (w168.heap[gb447]? = some (.cells #[.slice none 0 0, .slice none 0 0] 26 (0, 0))) := ⟨h20_⟩
             have n21_ : Aside0 (w.heap.size ≤ gb447) := ⟨h21_⟩
             have n22_ : Aside0 (w.heap.size ≤ gb447) := ⟨h22_⟩
             have n23_ : Aside0 (gb356 ≠ gb447) := ⟨h23_⟩
             have n24_ : Aside0 (gb447 ≠ gb356) := ⟨h24_⟩
             have n25_ : Aside0 (gb357 ≠ gb447) := ⟨h25_⟩
             have n26_ : Aside0 (gb447 ≠ gb357) := ⟨h26_⟩
             have n27_ : Aside0 (gb379 ≠ gb447) := ⟨h27_⟩
             have n28_ : Aside0 (gb447 ≠ gb379) := ⟨h28_⟩
             have n29_ : Aside0 (gb386 ≠ gb447) := ⟨h29_⟩
             have n30_ : Aside0 (gb447 ≠ gb386) := ⟨h30_⟩
             have n31_ : Aside0 (gb393 ≠ gb447) := ⟨h31_⟩
             have n32_ : Aside0 (gb447 ≠ gb393) := ⟨h32_⟩
             have n33_ : Aside0 (gb401 ≠ gb447) := ⟨h33_⟩
             have n34_ : Aside0 (gb447 ≠ gb401) := ⟨h34_⟩
             have n35_ : Aside0 (Below w.heap.size w w168) := ⟨h35_⟩
             clear HO_380000 HO_380001 HO_387000 HO_387001 HO_394000 HO_394001 HO_402000 HO_402001 BK356 BK357 BK379 BK386 BK393 BK401 HB
             clear h0_ h1_ h2_ h3_ h4_ h5_ h6_ h7_ h8_ h9_ h10_ h11_ h12_ h13_ h14_ h15_ h16_ h17_ h18_ h19_ h20_ h21_ h22_ h23_ h24_ h25_ h26_ h27_ h28_ h29_ h30_ h31_ h32_ h33_ h34_ h35_
             have HO430 := n0_
             have HO433 := n1_
             have HO436 := n2_
             have HO439 := n3_
             have HO442 := n4_
             have HO445 := n5_
             have HO_380000 := n6_
             have HO_380001 := n7_
             have HO_387000 := n8_
             have HO_387001 := n9_
             have HO_394000 := n10_
             have HO_394001 := n11_
             have HO_402000 := n12_
             have HO_402001 := n13_
             have BK356 := n14_
             have BK357 := n15_
             have BK379 := n16_
             have BK386 := n17_
             have BK393 := n18_
             have BK401 := n19_
             have BK447 := n20_
             have GW447 := n21_
             have GE447 := n22_
             have NB356_447 := n23_
             have NB447_356 := n24_
             have NB357_447 := n25_
             have NB447_357 := n26_
             have NB379_447 := n27_
             have NB447_379 := n28_
             have NB386_447 := n29_
             have NB447_386 := n30_
             have NB393_447 := n31_
             have NB447_393 := n32_
             have NB401_447 := n33_
             have NB447_401 := n34_
             have HB := n35_
             clear n0_ n1_ n2_ n3_ n4_ n5_ n6_ n7_ n8_ n9_ n10_ n11_ n12_ n13_ n14_ n15_ n16_ n17_ n18_ n19_ n20_ n21_ n22_ n23_ n24_ n25_ n26_ n27_ n28_ n29_ n30_ n31_ n32_ n33_ n34_ n35_
             have hHeld : w168.cell? ⟨gb356, 0, none⟩ = some (.slice A0_0 l0_0.length c0_0) ∧ w168.cell? ⟨gb356, 1, none⟩ = some (.slice A0_1 l0_1.length c0_1) ∧ w168.cell? ⟨gb357, 0, none⟩ = some (.slice A1_0 l1_0.length c1_0) ∧ w168.cell? ⟨gb357, 1, none⟩ = some (.slice A1_1 l1_1.length c1_1) := hS_
             obtain ⟨Ao169, co169, eo169⟩ := Kd.R_slice HO442.out
             (first | subst eo169 | (injection eo169 with f1_ f2_ f3_; have f4_ := f1_.symm; have f5_ := f3_.symm; clear f1_ f2_ f3_; subst f4_; subst f5_))
             obtain ⟨Ao171, co171, eo171⟩ := Kd.R_slice HO445.out
             (first | subst eo171 | (injection eo171 with f1_ f2_ f3_; have f4_ := f1_.symm; have f5_ := f3_.symm; clear f1_ f2_ f3_; subst f4_; subst f5_))
             refine norm_ (a' := ?_) ?_ ?_
             rotate_left
             ·
              simp only [putAll, Act.put, List.setIfInBounds_toArray, List.set_cons_zero, List.set_cons_succ]
              rfl
             refine one_ (i := 9) (N := none) #[true, true, true, true, true, true, true, true, true, true, false] rfl rfl (one_of HT_.out (by kernel_rfl)) (by decide) (fun K hK => ?_)
             have hs170 : w168.cell? ⟨gb447, 0, none⟩ = some (.slice none 0 0) := (blk_cell BK447.out 0).trans rfl
             have hfs170 := blk_frozen BK447.out 0
             have hns170_0 := NB356_447.out
             have hns170_1 := NB357_447.out
             have hns170_2 := NB379_447.out
             have hns170_3 := NB386_447.out
             have hns170_4 := NB393_447.out
             have hns170_5 := NB401_447.out
             have hms170_0 := NB447_356.out
             have hms170_1 := NB447_357.out
             have hms170_2 := NB447_379.out
             have hms170_3 := NB447_386.out
             have hms170_4 := NB447_393.out
             have hms170_5 := NB447_401.out
             have hs172 : w168.cell? ⟨gb447, 1, none⟩ = some (.slice none 0 0) := (blk_cell BK447.out 1).trans rfl
             have hfs172 := blk_frozen BK447.out 1
             have hns172_0 := NB356_447.out
             have hns172_1 := NB357_447.out
             have hns172_2 := NB379_447.out
             have hns172_3 := NB386_447.out
             have hns172_4 := NB393_447.out
             have hns172_5 := NB401_447.out
             have hms172_0 := NB447_356.out
             have hms172_1 := NB447_357.out
             have hms172_2 := NB447_379.out
             have hms172_3 := NB447_386.out
             have hms172_4 := NB447_393.out
             have hms172_5 := NB447_401.out
             refine skip_ (w1 := ?_) (by rfl) rfl ?_ ?_
             rotate_left
             ·
              go_simp
              rfl
             refine hK.out _ _ ⟨((cell_far (p := ⟨gb447, _, none⟩) NB356_447.out _).trans (((cell_far (p := ⟨gb447, _, none⟩) NB356_447.out _).trans (hHeld.1)))), ((cell_far (p := ⟨gb447, _, none⟩) NB356_447.out _).trans (((cell_far (p := ⟨gb447, _, none⟩) NB356_447.out _).trans (hHeld.2.1)))), ((cell_far (p := ⟨gb447, _, none⟩) NB357_447.out _).trans (((cell_far (p := ⟨gb447, _, none⟩) NB357_447.out _).trans (hHeld.2.2.1)))), ((cell_far (p := ⟨gb447, _, none⟩) NB357_447.out _).trans (((cell_far (p := ⟨gb447, _, none⟩) NB357_447.out _).trans (hHeld.2.2.2))))⟩ (fun hHeld => ?_)
             clear hK K
             refine pure_ (i := 10) (N := some 16) (v := ?_) (a' := ?_) #[true, true, true, true, true, true, true, true, true, true, true] rfl rfl (any_of HT_.out (by kernel_rfl)) (fun _ _ _ h => h) (Or.inl ⟨by rfl, ?_⟩) ?_ ?_
             rotate_left
             ·
              intro w'
              go_simp
              with_reducible rfl
             rotate_left
             ·
              simp only [Act.put, List.setIfInBounds_toArray, List.set_cons_zero, List.set_cons_succ, i64_w, i32_w]
              rfl
             refine done_ (done_of HT_.out (by kernel_rfl)) ?_
             go_upto_region 32 with (fail)
             go_cut [110] (fun v110 wc => ∃ (kq : Nat) (x110_148 : Bool), v110 = .bool x110_148 ∧ Aside0 (laws_FnExactDrop.j2 kq t424 x110_148 t425 t426 = some r) ∧ Aside0 (kq ≤ kj101) ∧ Aside0 (Kd.R (Kd.int .i64) 3 wc w.heap.size (fun k_ => some k_ ≠ ((.slice Ao45 t375.length co45) : Value).ownBlock ∧ some k_ ≠ ((.slice Ao51 t418.length co51) : Value).ownBlock ∧ some k_ ≠ ((.slice Ao56 t419.length co56) : Value).ownBlock ∧ some k_ ≠ ((.slice Ao61 t421.length co61) : Value).ownBlock ∧ some k_ ≠ ((.slice Ao67 t422.length co67) : Value).ownBlock ∧ some k_ ≠ ((.slice Ao71 t394.length co71) : Value).ownBlock ∧ some k_ ≠ ((.slice Ao78 t397.length co78) : Value).ownBlock ∧ some k_ ≠ ((.slice Ao169 t440.length co169) : Value).ownBlock ∧ some k_ ≠ ((.slice Ao171 t443.length co171) : Value).ownBlock) (.slice Ao43 t372.length co43) t372) ∧ Aside0 (Kd.R (Kd.int .i64) 3 wc w.heap.size (fun k_ => some k_ ≠ ((.slice Ao43 t372.length co43) : Value).ownBlock ∧ some k_ ≠ ((.slice Ao51 t418.length co51) : Value).ownBlock ∧ some k_ ≠ ((.slice Ao56 t419.length co56) : Value).ownBlock ∧ some k_ ≠ ((.slice Ao61 t421.length co61) : Value).ownBlock ∧ some k_ ≠ ((.slice Ao67 t422.length co67) : Value).ownBlock ∧ some k_ ≠ ((.slice Ao71 t394.length co71) : Value).ownBlock ∧ some k_ ≠ ((.slice Ao78 t397.length co78) : Value).ownBlock ∧ some k_ ≠ ((.slice Ao169 t440.length co169) : Value).ownBlock ∧ some k_ ≠ ((.slice Ao171 t443.length co171) : Value).ownBlock) (.slice Ao45 t375.length co45) t375) ∧ Aside0 (Kd.R (Kd.int .i64) 3 wc w.heap.size (fun k_ => some k_ ≠ ((.slice Ao43 t372.length co43) : Value).ownBlock ∧ some k_ ≠ ((.slice Ao45 t375.length co45) : Value).ownBlock ∧ some k_ ≠ ((.slice Ao56 t419.length co56) : Value).ownBlock ∧ some k_ ≠ ((.slice Ao61 t421.length co61) : Value).ownBlock ∧ some k_ ≠ ((.slice Ao67 t422.length co67) : Value).ownBlock ∧ some k_ ≠ ((.slice Ao71 t394.length co71) : Value).ownBlock ∧ some k_ ≠ ((.slice Ao78 t397.length co78) : Value).ownBlock ∧ some k_ ≠ ((.slice Ao169 t440.length co169) : Value).ownBlock ∧ some k_ ≠ ((.slice Ao171 t443.length co171) : Value).ownBlock) (.slice Ao51 t418.length co51) t418) ∧ Aside0 (Kd.R (Kd.int .i64) 3 wc w.heap.size (fun k_ => some k_ ≠ ((.slice Ao43 t372.length co43) : Value).ownBlock ∧ some k_ ≠ ((.slice Ao45 t375.length co45) : Value).ownBlock ∧ some k_ ≠ ((.slice Ao51 t418.length co51) : Value).ownBlock ∧ some k_ ≠ ((.slice Ao61 t421.length co61) : Value).ownBlock ∧ some k_ ≠ ((.slice Ao67 t422.length co67) : Value).ownBlock ∧ some k_ ≠ ((.slice Ao71 t394.length co71) : Value).ownBlock ∧ some k_ ≠ ((.slice Ao78 t397.length co78) : Value).ownBlock ∧ some k_ ≠ ((.slice Ao169 t440.length co169) : Value).ownBlock ∧ some k_ ≠ ((.slice Ao171 t443.length co171) : Value).ownBlock) (.slice Ao56 t419.length co56) t419) ∧ Aside0 (Kd.R (Kd.int .i64) 3 wc w.heap.size (fun k_ => some k_ ≠ ((.slice Ao43 t372.length co43) : Value).ownBlock ∧ some k_ ≠ ((.slice Ao45 t375.length co45) : Value).ownBlock ∧ some k_ ≠ ((.slice Ao51 t418.length co51) : Value).ownBlock ∧ some k_ ≠ ((.slice Ao56 t419.length co56) : Value).ownBlock ∧ some k_ ≠ ((.slice Ao67 t422.length co67) : Value).ownBlock ∧ some k_ ≠ ((.slice Ao71 t394.length co71) : Value).ownBlock ∧ some k_ ≠ ((.slice Ao78 t397.length co78) : Value).ownBlock ∧ some k_ ≠ ((.slice Ao169 t440.length co169) : Value).ownBlock ∧ some k_ ≠ ((.slice Ao171 t443.length co171) : Value).ownBlock) (.slice Ao61 t421.length co61) t421) ∧ Aside0 (Kd.R (Kd.int .i64) 3 wc w.heap.size (fun k_ => some k_ ≠ ((.slice Ao43 t372.length co43) : Value).ownBlock ∧ some k_ ≠ ((.slice Ao45 t375.length co45) : Value).ownBlock ∧ some k_ ≠ ((.slice Ao51 t418.length co51) : Value).ownBlock ∧ some k_ ≠ ((.slice Ao56 t419.length co56) : Value).ownBlock ∧ some k_ ≠ ((.slice Ao61 t421.length co61) : Value).ownBlock ∧ some k_ ≠ ((.slice Ao71 t394.length co71) : Value).ownBlock ∧ some k_ ≠ ((.slice Ao78 t397.length co78) : Value).ownBlock ∧ some k_ ≠ ((.slice Ao169 t440.length co169) : Value).ownBlock ∧ some k_ ≠ ((.slice Ao171 t443.length co171) : Value).ownBlock) (.slice Ao67 t422.length co67) t422) ∧ Aside0 (Kd.R (Kd.int .i64) 3 wc w.heap.size (fun k_ => some k_ ≠ ((.slice Ao43 t372.length co43) : Value).ownBlock ∧ some k_ ≠ ((.slice Ao45 t375.length co45) : Value).ownBlock ∧ some k_ ≠ ((.slice Ao51 t418.length co51) : Value).ownBlock ∧ some k_ ≠ ((.slice Ao56 t419.length co56) : Value).ownBlock ∧ some k_ ≠ ((.slice Ao61 t421.length co61) : Value).ownBlock ∧ some k_ ≠ ((.slice Ao67 t422.length co67) : Value).ownBlock ∧ some k_ ≠ ((.slice Ao78 t397.length co78) : Value).ownBlock ∧ some k_ ≠ ((.slice Ao169 t440.length co169) : Value).ownBlock ∧ some k_ ≠ ((.slice Ao171 t443.length co171) : Value).ownBlock) (.slice Ao71 t394.length co71) t425) ∧ Aside0 (Kd.R (Kd.int .i64) 3 wc w.heap.size (fun k_ => some k_ ≠ ((.slice Ao43 t372.length co43) : Value).ownBlock ∧ some k_ ≠ ((.slice Ao45 t375.length co45) : Value).ownBlock ∧ some k_ ≠ ((.slice Ao51 t418.length co51) : Value).ownBlock ∧ some k_ ≠ ((.slice Ao56 t419.length co56) : Value).ownBlock ∧ some k_ ≠ ((.slice Ao61 t421.length co61) : Value).ownBlock ∧ some k_ ≠ ((.slice Ao67 t422.length co67) : Value).ownBlock ∧ some k_ ≠ ((.slice Ao71 t394.length co71) : Value).ownBlock ∧ some k_ ≠ ((.slice Ao169 t440.length co169) : Value).ownBlock ∧ some k_ ≠ ((.slice Ao171 t443.length co171) : Value).ownBlock) (.slice Ao78 t397.length co78) t426) ∧ Aside0 (Kd.R (Kd.int .i64) 3 wc w.heap.size (fun k_ => some k_ ≠ ((.slice Ao43 t372.length co43) : Value).ownBlock ∧ some k_ ≠ ((.slice Ao45 t375.length co45) : Value).ownBlock ∧ some k_ ≠ ((.slice Ao51 t418.length co51) : Value).ownBlock ∧ some k_ ≠ ((.slice Ao56 t419.length co56) : Value).ownBlock ∧ some k_ ≠ ((.slice Ao61 t421.length co61) : Value).ownBlock ∧ some k_ ≠ ((.slice Ao67 t422.length co67) : Value).ownBlock ∧ some k_ ≠ ((.slice Ao71 t394.length co71) : Value).ownBlock ∧ some k_ ≠ ((.slice Ao78 t397.length co78) : Value).ownBlock ∧ some k_ ≠ ((.slice Ao171 t443.length co171) : Value).ownBlock) (.slice Ao169 t440.length co169) t440) ∧ Aside0 (Kd.R (Kd.int .i64) 3 wc w.heap.size (fun k_ => some k_ ≠ ((.slice Ao43 t372.length co43) : Value).ownBlock ∧ some k_ ≠ ((.slice Ao45 t375.length co45) : Value).ownBlock ∧ some k_ ≠ ((.slice Ao51 t418.length co51) : Value).ownBlock ∧ some k_ ≠ ((.slice Ao56 t419.length co56) : Value).ownBlock ∧ some k_ ≠ ((.slice Ao61 t421.length co61) : Value).ownBlock ∧ some k_ ≠ ((.slice Ao67 t422.length co67) : Value).ownBlock ∧ some k_ ≠ ((.slice Ao71 t394.length co71) : Value).ownBlock ∧ some k_ ≠ ((.slice Ao78 t397.length co78) : Value).ownBlock ∧ some k_ ≠ ((.slice Ao169 t440.length co169) : Value).ownBlock) (.slice Ao171 t443.length co171) t443) ∧ Aside0 (wc.heap[gb356]? = some (.cells #[(.slice A0_0 l0_0.length c0_0), (.slice A0_1 l0_1.length c0_1)] 24 (0, 0))) ∧ Aside0 (wc.heap[gb357]? = some (.cells #[(.slice A1_0 l1_0.length c1_0), (.slice A1_1 l1_1.length c1_1)] 24 (0, 0))) ∧ Aside0 (wc.heap[gb379]? = some (.cells #[(.slice Ao43 t372.length co43), (.slice Ao45 t375.length co45)] 26 (0, 0))) ∧ Aside0 (wc.heap[gb386]? = some (.cells #[(.slice Ao51 t418.length co51), (.slice Ao56 t419.length co56)] 26 (0, 0))) ∧ Aside0 (wc.heap[gb393]? = some (.cells #[(.slice Ao61 t421.length co61), (.slice Ao67 t422.length co67)] 26 (0, 0))) ∧ Aside0 (wc.heap[gb401]? = some (.cells #[(.slice Ao71 t394.length co71), (.slice Ao78 t397.length co78)] 26 (0, 0))) ∧ Aside0 (wc.heap[gb447]? = some (.cells #[(.slice Ao169 t440.length co169), (.slice Ao171 t443.length co171)] 26 (0, 0))) ∧ Aside0 (Below w.heap.size w wc))
             case first =>
              have H := HC149.out
              clear HC149
              replace H := Option.bind_eq_some_iff.mp H
              obtain ⟨t448, A1730, H⟩ := H
              replace H : (if t448 = true then (laws_FnExactDrop.j2 kj101 t424 (t446 != t378) t425 t426) else (laws_FnExactDrop.j2 kj101 t424 true t425 t426)) = some r := H
              have A173 := Aside0.mk A1730
              clear A1730
              by_cases c174 : t448 = true
              ·
               subst c174
               have H1 : (laws_FnExactDrop.j2 kj101 t424 (t446 != t378) t425 t426) = some r := by rw [if_pos rfl] at H; exact H
               clear H
               have H := H1
               clear H1
               have H' := Aside0.mk H
               clear H
               have hnb175 := NB447_356.out
               have hnc175 := NB356_447.out
               have hnb176 := NB447_357.out
               have hnc176 := NB357_447.out
               have hnb177 := NB447_379.out
               have hnc177 := NB379_447.out
               have hnb178 := NB447_386.out
               have hnc178 := NB386_447.out
               have hnb179 := NB447_393.out
               have hnc179 := NB393_447.out
               have hnb180 := NB447_401.out
               have hnc180 := NB401_447.out
               have hcz181_0 : w168.cell? ⟨gb447, 0, none⟩ = some (.slice none 0 0) := (blk_cell BK447.out 0).trans rfl
               have hcz181_1 : w168.cell? ⟨gb447, 1, none⟩ = some (.slice none 0 0) := (blk_cell BK447.out 1).trans rfl
               have hfz181_0 := blk_frozen BK447.out 0
               have hfz181_1 := blk_frozen BK447.out 1
               have hnb182 := NB379_356.out
               have hnc182 := NB356_379.out
               have hnb183 := NB379_357.out
               have hnc183 := NB357_379.out
               have hnb184 := NB379_386.out
               have hnc184 := NB386_379.out
               have hnb185 := NB379_393.out
               have hnc185 := NB393_379.out
               have hnb186 := NB379_401.out
               have hnc186 := NB401_379.out
               have hcz187_0 : w168.cell? ⟨gb379, 0, none⟩ = some (.slice Ao43 t372.length co43) := (blk_cell BK379.out 0).trans rfl
               have hcz187_1 : w168.cell? ⟨gb379, 1, none⟩ = some (.slice Ao45 t375.length co45) := (blk_cell BK379.out 1).trans rfl
               have hfz187_0 := blk_frozen BK379.out 0
               have hfz187_1 := blk_frozen BK379.out 1
               go_wp2_with (first | ((with_reducible refine gate_callee (f := 12) rfl ?_); refine goesL_ (some 104) rfl rfl Try.func12 (by kernel_rfl) rfl #[.agg #[.slice Ao169 t440.length co169, .slice Ao171 t443.length co171], .agg #[.slice Ao43 t372.length co43, .slice Ao45 t375.length co45]] rfl (by (try simp only [List.map_toArray, List.map_cons, List.map_nil]); first | done | rfl | (simp only [List.length_drop, List.length_take]; rfl)) ?_; (with_reducible refine (laws_eqArray.calls kj101 _ _ t440 _ _ t443 _ _ t372 _ _ t375 true _ ?side1 ?side2 ?side3 ?side4 ?side5 ?side6 ?side7 ?side8 A173.out).mono ?_); (case side1 => refine (Kd.R_reads' (e := 3) (base := w.heap.size) (ok := fun k_ => (some k_ ≠ (v429 : Value).ownBlock ∧ (some k_ ≠ (v432 : Value).ownBlock ∧ (some k_ ≠ (v435 : Value).ownBlock ∧ (some k_ ≠ (v438 : Value).ownBlock ∧ (some k_ ≠ (.slice Ao171 t443.length co171 : Value).ownBlock ∧ (some k_ ≠ (.slice Ao43 t372.length co43 : Value).ownBlock ∧ (some k_ ≠ (.slice Ao45 t375.length co45 : Value).ownBlock ∧ (some k_ ≠ (.slice Ao51 t418.length co51 : Value).ownBlock ∧ (some k_ ≠ (.slice Ao56 t419.length co56 : Value).ownBlock ∧ (some k_ ≠ (.slice Ao61 t421.length co61 : Value).ownBlock ∧ (some k_ ≠ (.slice Ao67 t422.length co67 : Value).ownBlock ∧ (some k_ ≠ (.slice Ao71 t394.length co71 : Value).ownBlock ∧ some k_ ≠ (.slice Ao78 t397.length co78 : Value).ownBlock))))))))))))) (n := t440.length) (c := co169) ?_).2.2; exact (by (with_reducible repeat (first | apply Kd.R_alloc | apply Kd.R_drewN | apply Kd.R_drew)); exact (far2 HO442.out BK447.out))); (case side2 => exact (Kd.R_reads' HO442.out).2.1); (case side3 => refine (Kd.R_reads' (e := 3) (base := w.heap.size) (ok := fun k_ => (some k_ ≠ (v429 : Value).ownBlock ∧ (some k_ ≠ (v432 : Value).ownBlock ∧ (some k_ ≠ (v435 : Value).ownBlock ∧ (some k_ ≠ (v438 : Value).ownBlock ∧ (some k_ ≠ (.slice Ao169 t440.length co169 : Value).ownBlock ∧ (some k_ ≠ (.slice Ao43 t372.length co43 : Value).ownBlock ∧ (some k_ ≠ (.slice Ao45 t375.length co45 : Value).ownBlock ∧ (some k_ ≠ (.slice Ao51 t418.length co51 : Value).ownBlock ∧ (some k_ ≠ (.slice Ao56 t419.length co56 : Value).ownBlock ∧ (some k_ ≠ (.slice Ao61 t421.length co61 : Value).ownBlock ∧ (some k_ ≠ (.slice Ao67 t422.length co67 : Value).ownBlock ∧ (some k_ ≠ (.slice Ao71 t394.length co71 : Value).ownBlock ∧ some k_ ≠ (.slice Ao78 t397.length co78 : Value).ownBlock))))))))))))) (n := t443.length) (c := co171) ?_).2.2; exact (by (with_reducible repeat (first | apply Kd.R_alloc | apply Kd.R_drewN | apply Kd.R_drew)); exact (far2 HO445.out BK447.out))); (case side4 => exact (Kd.R_reads' HO445.out).2.1); (case side5 => refine (Kd.R_reads' (e := 3) (base := w.heap.size) (ok := fun k_ => (some k_ ≠ (v429 : Value).ownBlock ∧ (some k_ ≠ (v432 : Value).ownBlock ∧ (some k_ ≠ (v435 : Value).ownBlock ∧ (some k_ ≠ (v438 : Value).ownBlock ∧ (some k_ ≠ (.slice Ao169 t440.length co169 : Value).ownBlock ∧ (some k_ ≠ (.slice Ao171 t443.length co171 : Value).ownBlock ∧ (some k_ ≠ (.slice Ao45 t375.length co45 : Value).ownBlock ∧ (some k_ ≠ (.slice Ao51 t418.length co51 : Value).ownBlock ∧ (some k_ ≠ (.slice Ao56 t419.length co56 : Value).ownBlock ∧ (some k_ ≠ (.slice Ao61 t421.length co61 : Value).ownBlock ∧ (some k_ ≠ (.slice Ao67 t422.length co67 : Value).ownBlock ∧ (some k_ ≠ (.slice Ao71 t394.length co71 : Value).ownBlock ∧ some k_ ≠ (.slice Ao78 t397.length co78 : Value).ownBlock))))))))))))) (n := t372.length) (c := co43) ?_).2.2; exact (by (with_reducible repeat (first | apply Kd.R_alloc | apply Kd.R_drewN | apply Kd.R_drew)); exact (far2 HO_380000.out BK447.out))); (case side6 => exact (Kd.R_reads' HO_380000.out).2.1); (case side7 => refine (Kd.R_reads' (e := 3) (base := w.heap.size) (ok := fun k_ => (some k_ ≠ (v429 : Value).ownBlock ∧ (some k_ ≠ (v432 : Value).ownBlock ∧ (some k_ ≠ (v435 : Value).ownBlock ∧ (some k_ ≠ (v438 : Value).ownBlock ∧ (some k_ ≠ (.slice Ao169 t440.length co169 : Value).ownBlock ∧ (some k_ ≠ (.slice Ao171 t443.length co171 : Value).ownBlock ∧ (some k_ ≠ (.slice Ao43 t372.length co43 : Value).ownBlock ∧ (some k_ ≠ (.slice Ao51 t418.length co51 : Value).ownBlock ∧ (some k_ ≠ (.slice Ao56 t419.length co56 : Value).ownBlock ∧ (some k_ ≠ (.slice Ao61 t421.length co61 : Value).ownBlock ∧ (some k_ ≠ (.slice Ao67 t422.length co67 : Value).ownBlock ∧ (some k_ ≠ (.slice Ao71 t394.length co71 : Value).ownBlock ∧ some k_ ≠ (.slice Ao78 t397.length co78 : Value).ownBlock))))))))))))) (n := t375.length) (c := co45) ?_).2.2; exact (by (with_reducible repeat (first | apply Kd.R_alloc | apply Kd.R_drewN | apply Kd.R_drew)); exact (far2 HO_380001.out BK447.out))); (case side8 => exact (Kd.R_reads' HO_380001.out).2.1); rintro e w188 ⟨rfl, hb⟩; refine ⟨_, rfl, ?_⟩; replace HO_380000 := Aside0.mk (Kd.R_below (by (with_reducible repeat (first | apply Kd.R_alloc | apply Kd.R_drewN | apply Kd.R_drew)); exact (far2 HO_380000.out BK447.out)) hb); replace HO_380001 := Aside0.mk (Kd.R_below (by (with_reducible repeat (first | apply Kd.R_alloc | apply Kd.R_drewN | apply Kd.R_drew)); exact (far2 HO_380001.out BK447.out)) hb); replace HO_387000 := Aside0.mk (Kd.R_below (by (with_reducible repeat (first | apply Kd.R_alloc | apply Kd.R_drewN | apply Kd.R_drew)); exact (far2 HO_387000.out BK447.out)) hb); replace HO_387001 := Aside0.mk (Kd.R_below (by (with_reducible repeat (first | apply Kd.R_alloc | apply Kd.R_drewN | apply Kd.R_drew)); exact (far2 HO_387001.out BK447.out)) hb); replace HO_394000 := Aside0.mk (Kd.R_below (by (with_reducible repeat (first | apply Kd.R_alloc | apply Kd.R_drewN | apply Kd.R_drew)); exact (far2 HO_394000.out BK447.out)) hb); replace HO_394001 := Aside0.mk (Kd.R_below (by (with_reducible repeat (first | apply Kd.R_alloc | apply Kd.R_drewN | apply Kd.R_drew)); exact (far2 HO_394001.out BK447.out)) hb); replace HO_402000 := Aside0.mk (Kd.R_below (by (with_reducible repeat (first | apply Kd.R_alloc | apply Kd.R_drewN | apply Kd.R_drew)); exact (far2 HO_402000.out BK447.out)) hb); replace HO_402001 := Aside0.mk (Kd.R_below (by (with_reducible repeat (first | apply Kd.R_alloc | apply Kd.R_drewN | apply Kd.R_drew)); exact (far2 HO_402001.out BK447.out)) hb); replace HO430 := Aside0.mk (Kd.R_below (by (with_reducible repeat (first | apply Kd.R_alloc | apply Kd.R_drewN | apply Kd.R_drew)); exact (far2 HO430.out BK447.out)) hb); replace HO433 := Aside0.mk (Kd.R_below (by (with_reducible repeat (first | apply Kd.R_alloc | apply Kd.R_drewN | apply Kd.R_drew)); exact (far2 HO433.out BK447.out)) hb); replace HO436 := Aside0.mk (Kd.R_below (by (with_reducible repeat (first | apply Kd.R_alloc | apply Kd.R_drewN | apply Kd.R_drew)); exact (far2 HO436.out BK447.out)) hb); replace HO439 := Aside0.mk (Kd.R_below (by (with_reducible repeat (first | apply Kd.R_alloc | apply Kd.R_drewN | apply Kd.R_drew)); exact (far2 HO439.out BK447.out)) hb); replace HO442 := Aside0.mk (Kd.R_below (by (with_reducible repeat (first | apply Kd.R_alloc | apply Kd.R_drewN | apply Kd.R_drew)); exact (far2 HO442.out BK447.out)) hb); replace HO445 := Aside0.mk (Kd.R_below (by (with_reducible repeat (first | apply Kd.R_alloc | apply Kd.R_drewN | apply Kd.R_drew)); exact (far2 HO445.out BK447.out)) hb); replace BK356 := Aside0.mk (blk_below (g := gb356) (o := .cells #[.slice A0_0 l0_0.length c0_0, .slice A0_1 l0_1.length c0_1] 24 (0, 0)) (by (with_reducible repeat (first | refine blk_drewN ?_ _ | refine blk_drew ?_ | refine blk_alloc ?_ _)); refine blk_far ?_ NB356_447.out _; (with_reducible repeat (first | refine blk_drewN ?_ _ | refine blk_drew ?_ | refine blk_alloc ?_ _)); refine blk_far ?_ NB356_447.out _; (with_reducible repeat (first | refine blk_drewN ?_ _ | refine blk_drew ?_ | refine blk_alloc ?_ _)); exact BK356.out) hb); replace BK357 := Aside0.mk (blk_below (g := gb357) (o := .cells #[.slice A1_0 l1_0.length c1_0, .slice A1_1 l1_1.length c1_1] 24 (0, 0)) (by (with_reducible repeat (first | refine blk_drewN ?_ _ | refine blk_drew ?_ | refine blk_alloc ?_ _)); refine blk_far ?_ NB357_447.out _; (with_reducible repeat (first | refine blk_drewN ?_ _ | refine blk_drew ?_ | refine blk_alloc ?_ _)); refine blk_far ?_ NB357_447.out _; (with_reducible repeat (first | refine blk_drewN ?_ _ | refine blk_drew ?_ | refine blk_alloc ?_ _)); exact BK357.out) hb); replace BK379 := Aside0.mk (blk_below (g := gb379) (o := .cells #[.slice Ao43 t372.length co43, .slice Ao45 t375.length co45] 26 (0, 0)) (by (with_reducible repeat (first | refine blk_drewN ?_ _ | refine blk_drew ?_ | refine blk_alloc ?_ _)); refine blk_far ?_ NB379_447.out _; (with_reducible repeat (first | refine blk_drewN ?_ _ | refine blk_drew ?_ | refine blk_alloc ?_ _)); refine blk_far ?_ NB379_447.out _; (with_reducible repeat (first | refine blk_drewN ?_ _ | refine blk_drew ?_ | refine blk_alloc ?_ _)); exact BK379.out) hb); replace BK386 := Aside0.mk (blk_below (g := gb386) (o := .cells #[.slice Ao51 t418.length co51, .slice Ao56 t419.length co56] 26 (0, 0)) (by (with_reducible repeat (first | refine blk_drewN ?_ _ | refine blk_drew ?_ | refine blk_alloc ?_ _)); refine blk_far ?_ NB386_447.out _; (with_reducible repeat (first | refine blk_drewN ?_ _ | refine blk_drew ?_ | refine blk_alloc ?_ _)); refine blk_far ?_ NB386_447.out _; (with_reducible repeat (first | refine blk_drewN ?_ _ | refine blk_drew ?_ | refine blk_alloc ?_ _)); exact BK386.out) hb); replace BK393 := Aside0.mk (blk_below (g := gb393) (o := .cells #[.slice Ao61 t421.length co61, .slice Ao67 t422.length co67] 26 (0, 0)) (by (with_reducible repeat (first | refine blk_drewN ?_ _ | refine blk_drew ?_ | refine blk_alloc ?_ _)); refine blk_far ?_ NB393_447.out _; (with_reducible repeat (first | refine blk_drewN ?_ _ | refine blk_drew ?_ | refine blk_alloc ?_ _)); refine blk_far ?_ NB393_447.out _; (with_reducible repeat (first | refine blk_drewN ?_ _ | refine blk_drew ?_ | refine blk_alloc ?_ _)); exact BK393.out) hb); replace BK401 := Aside0.mk (blk_below (g := gb401) (o := .cells #[.slice Ao71 t394.length co71, .slice Ao78 t397.length co78] 26 (0, 0)) (by (with_reducible repeat (first | refine blk_drewN ?_ _ | refine blk_drew ?_ | refine blk_alloc ?_ _)); refine blk_far ?_ NB401_447.out _; (with_reducible repeat (first | refine blk_drewN ?_ _ | refine blk_drew ?_ | refine blk_alloc ?_ _)); refine blk_far ?_ NB401_447.out _; (with_reducible repeat (first | refine blk_drewN ?_ _ | refine blk_drew ?_ | refine blk_alloc ?_ _)); exact BK401.out) hb); replace BK447 := Aside0.mk (blk_below (g := gb447) (o := .cells #[.slice Ao169 t440.length co169, .slice Ao171 t443.length co171] 26 (0, 0)) (by (with_reducible repeat (first | refine blk_drewN ?_ _ | refine blk_drew ?_ | refine blk_alloc ?_ _)); refine blk_put (cs := #[.slice Ao169 t440.length co169, .slice none 0 0]) ?_ 1 _ rfl; (with_reducible repeat (first | refine blk_drewN ?_ _ | refine blk_drew ?_ | refine blk_alloc ?_ _)); refine blk_put (cs := #[.slice none 0 0, .slice none 0 0]) ?_ 0 _ rfl; (with_reducible repeat (first | refine blk_drewN ?_ _ | refine blk_drew ?_ | refine blk_alloc ?_ _)); exact BK447.out) hb); replace HB := Aside0.mk (below_step (by repeat (first | (with_reducible first | exact HB.out | apply below_alloc | apply pw_below_drewN | apply below_drew1 | refine below_set ?_ GE356.out | refine below_set ?_ GE357.out | refine below_set ?_ GE379.out | refine below_set ?_ GE386.out | refine below_set ?_ GE393.out | refine below_set ?_ GE401.out | refine below_set ?_ GE447.out) | exact HB.out)) hb); (try clear hb); (try clear hb2); (try clear hk); (try clear hi)))
               go_meet
               case rel => exact ⟨_, ((t446 != t378)), (by first | rfl | (simp; done) | (simp [*]; done)), H', ⟨by have := HJ24.out; have := HJ101.out; first | omega | exact Nat.le_refl _⟩, ⟨by (try simp only [hl387000_101]); (try simp only [hl387001_101]); (try simp only [hl394000_101]); (try simp only [hl394001_101]); (with_reducible repeat (first | apply Kd.R_alloc | apply Kd.R_drewN | apply Kd.R_drew)); exact Kd.R_mono HO_380000.out (fun _ hk => ⟨hk.2.2.2.2.2.2.1, ⟨hk.2.2.2.2.2.2.2.1, ⟨hk.2.2.2.2.2.2.2.2.1, ⟨hk.2.2.2.2.2.2.2.2.2.1, ⟨hk.2.2.2.2.2.2.2.2.2.2.1, ⟨hk.2.2.2.2.2.2.2.2.2.2.2.1, ⟨hk.2.2.2.2.2.2.2.2.2.2.2.2, ⟨hk.2.2.2.2.1, hk.2.2.2.2.2.1⟩⟩⟩⟩⟩⟩⟩⟩)⟩, ⟨by (try simp only [hl387000_101]); (try simp only [hl387001_101]); (try simp only [hl394000_101]); (try simp only [hl394001_101]); (with_reducible repeat (first | apply Kd.R_alloc | apply Kd.R_drewN | apply Kd.R_drew)); exact Kd.R_mono HO_380001.out (fun _ hk => ⟨hk.2.2.2.2.2.2.1, ⟨hk.2.2.2.2.2.2.2.1, ⟨hk.2.2.2.2.2.2.2.2.1, ⟨hk.2.2.2.2.2.2.2.2.2.1, ⟨hk.2.2.2.2.2.2.2.2.2.2.1, ⟨hk.2.2.2.2.2.2.2.2.2.2.2.1, ⟨hk.2.2.2.2.2.2.2.2.2.2.2.2, ⟨hk.2.2.2.2.1, hk.2.2.2.2.2.1⟩⟩⟩⟩⟩⟩⟩⟩)⟩, ⟨by (try simp only [hl387000_101]); (try simp only [hl387001_101]); (try simp only [hl394000_101]); (try simp only [hl394001_101]); (with_reducible repeat (first | apply Kd.R_alloc | apply Kd.R_drewN | apply Kd.R_drew)); exact Kd.R_mono HO_387000.out (fun _ hk => ⟨hk.2.2.2.2.2.2.1, ⟨hk.2.2.2.2.2.2.2.1, ⟨hk.2.2.2.2.2.2.2.2.1, ⟨hk.2.2.2.2.2.2.2.2.2.1, ⟨hk.2.2.2.2.2.2.2.2.2.2.1, ⟨hk.2.2.2.2.2.2.2.2.2.2.2.1, ⟨hk.2.2.2.2.2.2.2.2.2.2.2.2, ⟨hk.2.2.2.2.1, hk.2.2.2.2.2.1⟩⟩⟩⟩⟩⟩⟩⟩)⟩, ⟨by (try simp only [hl387000_101]); (try simp only [hl387001_101]); (try simp only [hl394000_101]); (try simp only [hl394001_101]); (with_reducible repeat (first | apply Kd.R_alloc | apply Kd.R_drewN | apply Kd.R_drew)); exact Kd.R_mono HO_387001.out (fun _ hk => ⟨hk.2.2.2.2.2.2.1, ⟨hk.2.2.2.2.2.2.2.1, ⟨hk.2.2.2.2.2.2.2.2.1, ⟨hk.2.2.2.2.2.2.2.2.2.1, ⟨hk.2.2.2.2.2.2.2.2.2.2.1, ⟨hk.2.2.2.2.2.2.2.2.2.2.2.1, ⟨hk.2.2.2.2.2.2.2.2.2.2.2.2, ⟨hk.2.2.2.2.1, hk.2.2.2.2.2.1⟩⟩⟩⟩⟩⟩⟩⟩)⟩, ⟨by (try simp only [hl387000_101]); (try simp only [hl387001_101]); (try simp only [hl394000_101]); (try simp only [hl394001_101]); (with_reducible repeat (first | apply Kd.R_alloc | apply Kd.R_drewN | apply Kd.R_drew)); exact Kd.R_mono HO_394000.out (fun _ hk => ⟨hk.2.2.2.2.2.2.1, ⟨hk.2.2.2.2.2.2.2.1, ⟨hk.2.2.2.2.2.2.2.2.1, ⟨hk.2.2.2.2.2.2.2.2.2.1, ⟨hk.2.2.2.2.2.2.2.2.2.2.1, ⟨hk.2.2.2.2.2.2.2.2.2.2.2.1, ⟨hk.2.2.2.2.2.2.2.2.2.2.2.2, ⟨hk.2.2.2.2.1, hk.2.2.2.2.2.1⟩⟩⟩⟩⟩⟩⟩⟩)⟩, ⟨by (try simp only [hl387000_101]); (try simp only [hl387001_101]); (try simp only [hl394000_101]); (try simp only [hl394001_101]); (with_reducible repeat (first | apply Kd.R_alloc | apply Kd.R_drewN | apply Kd.R_drew)); exact Kd.R_mono HO_394001.out (fun _ hk => ⟨hk.2.2.2.2.2.2.1, ⟨hk.2.2.2.2.2.2.2.1, ⟨hk.2.2.2.2.2.2.2.2.1, ⟨hk.2.2.2.2.2.2.2.2.2.1, ⟨hk.2.2.2.2.2.2.2.2.2.2.1, ⟨hk.2.2.2.2.2.2.2.2.2.2.2.1, ⟨hk.2.2.2.2.2.2.2.2.2.2.2.2, ⟨hk.2.2.2.2.1, hk.2.2.2.2.2.1⟩⟩⟩⟩⟩⟩⟩⟩)⟩, ⟨by (try simp only [hl387000_101]); (try simp only [hl387001_101]); (try simp only [hl394000_101]); (try simp only [hl394001_101]); (with_reducible repeat (first | apply Kd.R_alloc | apply Kd.R_drewN | apply Kd.R_drew)); exact Kd.R_mono HO_402000.out (fun _ hk => ⟨hk.2.2.2.2.2.2.1, ⟨hk.2.2.2.2.2.2.2.1, ⟨hk.2.2.2.2.2.2.2.2.1, ⟨hk.2.2.2.2.2.2.2.2.2.1, ⟨hk.2.2.2.2.2.2.2.2.2.2.1, ⟨hk.2.2.2.2.2.2.2.2.2.2.2.1, ⟨hk.2.2.2.2.2.2.2.2.2.2.2.2, ⟨hk.2.2.2.2.1, hk.2.2.2.2.2.1⟩⟩⟩⟩⟩⟩⟩⟩)⟩, ⟨by (try simp only [hl387000_101]); (try simp only [hl387001_101]); (try simp only [hl394000_101]); (try simp only [hl394001_101]); (with_reducible repeat (first | apply Kd.R_alloc | apply Kd.R_drewN | apply Kd.R_drew)); exact Kd.R_mono HO_402001.out (fun _ hk => ⟨hk.2.2.2.2.2.2.1, ⟨hk.2.2.2.2.2.2.2.1, ⟨hk.2.2.2.2.2.2.2.2.1, ⟨hk.2.2.2.2.2.2.2.2.2.1, ⟨hk.2.2.2.2.2.2.2.2.2.2.1, ⟨hk.2.2.2.2.2.2.2.2.2.2.2.1, ⟨hk.2.2.2.2.2.2.2.2.2.2.2.2, ⟨hk.2.2.2.2.1, hk.2.2.2.2.2.1⟩⟩⟩⟩⟩⟩⟩⟩)⟩, ⟨by (try simp only [hl387000_101]); (try simp only [hl387001_101]); (try simp only [hl394000_101]); (try simp only [hl394001_101]); (with_reducible repeat (first | apply Kd.R_alloc | apply Kd.R_drewN | apply Kd.R_drew)); exact Kd.R_mono HO442.out (fun _ hk => ⟨hk.2.2.2.2.2.1, ⟨hk.2.2.2.2.2.2.1, ⟨hk.2.2.2.2.2.2.2.1, ⟨hk.2.2.2.2.2.2.2.2.1, ⟨hk.2.2.2.2.2.2.2.2.2.1, ⟨hk.2.2.2.2.2.2.2.2.2.2.1, ⟨hk.2.2.2.2.2.2.2.2.2.2.2.1, ⟨hk.2.2.2.2.2.2.2.2.2.2.2.2, hk.2.2.2.2.1⟩⟩⟩⟩⟩⟩⟩⟩)⟩, ⟨by (try simp only [hl387000_101]); (try simp only [hl387001_101]); (try simp only [hl394000_101]); (try simp only [hl394001_101]); (with_reducible repeat (first | apply Kd.R_alloc | apply Kd.R_drewN | apply Kd.R_drew)); exact Kd.R_mono HO445.out (fun _ hk => ⟨hk.2.2.2.2.2.1, ⟨hk.2.2.2.2.2.2.1, ⟨hk.2.2.2.2.2.2.2.1, ⟨hk.2.2.2.2.2.2.2.2.1, ⟨hk.2.2.2.2.2.2.2.2.2.1, ⟨hk.2.2.2.2.2.2.2.2.2.2.1, ⟨hk.2.2.2.2.2.2.2.2.2.2.2.1, ⟨hk.2.2.2.2.2.2.2.2.2.2.2.2, hk.2.2.2.2.1⟩⟩⟩⟩⟩⟩⟩⟩)⟩, ⟨by (try simp only [hl387000_101]); (try simp only [hl387001_101]); (try simp only [hl394000_101]); (try simp only [hl394001_101]); (with_reducible repeat (first | refine blk_drewN ?_ _ | refine blk_drew ?_ | refine blk_alloc ?_ _)); exact BK356.out⟩, ⟨by (try simp only [hl387000_101]); (try simp only [hl387001_101]); (try simp only [hl394000_101]); (try simp only [hl394001_101]); (with_reducible repeat (first | refine blk_drewN ?_ _ | refine blk_drew ?_ | refine blk_alloc ?_ _)); exact BK357.out⟩, ⟨by (try simp only [hl387000_101]); (try simp only [hl387001_101]); (try simp only [hl394000_101]); (try simp only [hl394001_101]); (with_reducible repeat (first | refine blk_drewN ?_ _ | refine blk_drew ?_ | refine blk_alloc ?_ _)); exact BK379.out⟩, ⟨by (try simp only [hl387000_101]); (try simp only [hl387001_101]); (try simp only [hl394000_101]); (try simp only [hl394001_101]); (with_reducible repeat (first | refine blk_drewN ?_ _ | refine blk_drew ?_ | refine blk_alloc ?_ _)); exact BK386.out⟩, ⟨by (try simp only [hl387000_101]); (try simp only [hl387001_101]); (try simp only [hl394000_101]); (try simp only [hl394001_101]); (with_reducible repeat (first | refine blk_drewN ?_ _ | refine blk_drew ?_ | refine blk_alloc ?_ _)); exact BK393.out⟩, ⟨by (try simp only [hl387000_101]); (try simp only [hl387001_101]); (try simp only [hl394000_101]); (try simp only [hl394001_101]); (with_reducible repeat (first | refine blk_drewN ?_ _ | refine blk_drew ?_ | refine blk_alloc ?_ _)); exact BK401.out⟩, ⟨by (try simp only [hl387000_101]); (try simp only [hl387001_101]); (try simp only [hl394000_101]); (try simp only [hl394001_101]); (with_reducible repeat (first | refine blk_drewN ?_ _ | refine blk_drew ?_ | refine blk_alloc ?_ _)); exact BK447.out⟩, ⟨by repeat (first | (with_reducible first | exact HB.out | apply below_alloc | apply pw_below_drewN | apply below_drew1 | refine below_set ?_ GE356.out | refine below_set ?_ GE357.out | refine below_set ?_ GE379.out | refine below_set ?_ GE386.out | refine below_set ?_ GE393.out | refine below_set ?_ GE401.out | refine below_set ?_ GE447.out) | exact HB.out)⟩⟩
              ·
               replace c174 := Bool.eq_false_iff.mpr c174
               subst c174
               have H1 : (laws_FnExactDrop.j2 kj101 t424 true t425 t426) = some r := by rw [if_neg (show ¬ (false = true) by decide)] at H; exact H
               clear H
               have H := H1
               clear H1
               have hz_ : ∀ kz, laws_FnExactDrop.j2 kz t424 true t425 t426 = some r → r = false := by intro kz hz; cases kz with | zero => exact absurd hz (by simp [laws_FnExactDrop.j2]) | succ kz => simp only [laws_FnExactDrop.j2] at hz; first | (rw [if_pos rfl] at hz; exact (Option.some.inj hz).symm) | (simp at hz; exact hz.symm) | (simp at hz; exact hz)
               exact absurd (HT.out.symm.trans (hz_ _ H)) (by decide)
             case rest =>
              clear HC149
              try clear c1
              try clear p2
              try clear c10
              try clear c11
              try clear c12
              try clear c17
              try clear c18
              try clear c174
              try clear c175
              try clear c176
              try clear c177
              try clear c178
              try clear c179
              try clear c180
              try clear c182
              try clear c183
              try clear c184
              try clear c185
              try clear c186
              try clear hcz181_0
              try clear hcz181_1
              try clear hcz187_0
              try clear hcz187_1
              try clear hfz181_0
              try clear hfz181_1
              try clear hfz187_0
              try clear hfz187_1
              obtain ⟨kq, x110_148, rfl, HA, HJ148, HO_380000, HO_380001, HO_387000, HO_387001, HO_394000, HO_394001, HO_402000, HO_402001, HO_448000, HO_448001, BK356, BK357, BK379, BK386, BK393, BK401, BK447, HB⟩ := hcut
              have hl402000_148 := (Kd.R_reads' HO_402000.out).1
              rw [hl402000_148] at HO_402000
              (try simp only [hl402000_148])
              (try simp only [hl402000_148] at BK356)
              (try simp only [hl402000_148] at BK357)
              (try simp only [hl402000_148] at BK379)
              (try simp only [hl402000_148] at BK386)
              (try simp only [hl402000_148] at BK393)
              (try simp only [hl402000_148] at BK401)
              (try simp only [hl402000_148] at BK447)
              (try simp only [hl402000_148] at HO_380000)
              (try simp only [hl402000_148] at HO_380001)
              (try simp only [hl402000_148] at HO_387000)
              (try simp only [hl402000_148] at HO_387001)
              (try simp only [hl402000_148] at HO_394000)
              (try simp only [hl402000_148] at HO_394001)
              (try simp only [hl402000_148] at HO_402001)
              (try simp only [hl402000_148] at HO_448000)
              (try simp only [hl402000_148] at HO_448001)
              have hl402001_148 := (Kd.R_reads' HO_402001.out).1
              rw [hl402001_148] at HO_402001
              (try simp only [hl402001_148])
              (try simp only [hl402001_148] at BK356)
              (try simp only [hl402001_148] at BK357)
              (try simp only [hl402001_148] at BK379)
              (try simp only [hl402001_148] at BK386)
              (try simp only [hl402001_148] at BK393)
              (try simp only [hl402001_148] at BK401)
              (try simp only [hl402001_148] at BK447)
              (try simp only [hl402001_148] at HO_380000)
              (try simp only [hl402001_148] at HO_380001)
              (try simp only [hl402001_148] at HO_387000)
              (try simp only [hl402001_148] at HO_387001)
              (try simp only [hl402001_148] at HO_394000)
              (try simp only [hl402001_148] at HO_394001)
              (try simp only [hl402001_148] at HO_402000)
              (try simp only [hl402001_148] at HO_448000)
              (try simp only [hl402001_148] at HO_448001)
              cases kq with
              | zero => exact absurd HA.out (by simp [laws_FnExactDrop.j2])
              | succ kj148 =>
               have H := HA.out
               clear HA
               simp only [laws_FnExactDrop.j2] at H
               by_cases c189 : x110_148 = true
               ·
                subst c189
                have H1 : (some false) = some r := by rw [if_pos rfl] at H; exact H
                clear H
                have H := H1
                clear H1
                obtain rfl := Option.some.inj H
                exact absurd HT.out (by decide)
               ·
                replace c189 := Bool.eq_false_iff.mpr c189
                subst c189
                have H1 : ((laws_heldArray.f kj148 t425 t426 1).bind fun t449 => (if t449 < 0 then (some false) else (if t449 = t424 then (some true) else (some false)))) = some r := by rw [if_neg (show ¬ (false = true) by decide)] at H; exact H
                clear H
                have H := H1
                clear H1
                replace H := Option.bind_eq_some_iff.mp H
                obtain ⟨t449, A1900, H⟩ := H
                replace H : (if t449 < 0 then (some false) else (if t449 = t424 then (some true) else (some false))) = some r := H
                have A190 := Aside0.mk A1900
                clear A1900
                by_cases c191 : t449 < 0
                ·
                 rw [if_pos c191] at H
                 have c191b0 : decide (t449 < 0) = true := decide_eq_true c191
                 clear c191
                 obtain rfl := Option.some.inj H
                 exact absurd HT.out (by decide)
                ·
                 rw [if_neg c191] at H
                 have c191b0 : decide (t449 < 0) = false := decide_eq_false c191
                 clear c191
                 by_cases c192 : t449 = t424
                 ·
                  rw [if_pos c192] at H
                  have c192b0 : (t449 == t424) = true := beq_iff_eq.mpr c192
                  have c192b1 : (t449 != t424) = false := bne_eq_false_iff_eq.mpr c192
                  clear c192
                  obtain rfl := Option.some.inj H
                  have hnb193 := NB401_356.out
                  have hnc193 := NB356_401.out
                  have hnb194 := NB401_357.out
                  have hnc194 := NB357_401.out
                  have hnb195 := NB401_379.out
                  have hnc195 := NB379_401.out
                  have hnb196 := NB401_386.out
                  have hnc196 := NB386_401.out
                  have hnb197 := NB401_393.out
                  have hnc197 := NB393_401.out
                  have hnb198 := NB401_447.out
                  have hnc198 := NB447_401.out
                  have hcz199_0 : wc.cell? ⟨gb401, 0, none⟩ = some (.slice Ao71 t425.length co71) := (blk_cell BK401.out 0).trans rfl
                  have hcz199_1 : wc.cell? ⟨gb401, 1, none⟩ = some (.slice Ao78 t426.length co78) := (blk_cell BK401.out 1).trans rfl
                  have hfz199_0 := blk_frozen BK401.out 0
                  have hfz199_1 := blk_frozen BK401.out 1
                  go_wp2_with (first | ((with_reducible refine gate_callee (f := 14) rfl ?_); refine goesL_ (some 113) rfl rfl Try.func14 (by kernel_rfl) rfl #[.agg #[.slice Ao71 t425.length co71, .slice Ao78 t426.length co78], .int .i64 1] rfl (by (try simp only [List.map_toArray, List.map_cons, List.map_nil]); first | done | rfl | (simp only [List.length_drop, List.length_take]; rfl)) ?_; (with_reducible refine (laws_heldArray.calls kj148 _ _ t425 _ _ t426 1 t449 _ ?side1 ?side2 ?side3 ?side4 A190.out).mono ?_); (case side1 => exact cU (Kd.R_reads' HO_402000.out).2.2); (case side2 => exact (Kd.R_reads' HO_402000.out).2.1); (case side3 => exact cU (Kd.R_reads' HO_402001.out).2.2); (case side4 => exact (Kd.R_reads' HO_402001.out).2.1); rintro e w200 ⟨rfl, hb⟩; refine ⟨_, rfl, ?_⟩; replace HO_380000 := Aside0.mk (Kd.R_below (RU HO_380000.out) hb); replace HO_380001 := Aside0.mk (Kd.R_below (RU HO_380001.out) hb); replace HO_387000 := Aside0.mk (Kd.R_below (RU HO_387000.out) hb); replace HO_387001 := Aside0.mk (Kd.R_below (RU HO_387001.out) hb); replace HO_394000 := Aside0.mk (Kd.R_below (RU HO_394000.out) hb); replace HO_394001 := Aside0.mk (Kd.R_below (RU HO_394001.out) hb); replace HO_402000 := Aside0.mk (Kd.R_below (RU HO_402000.out) hb); replace HO_402001 := Aside0.mk (Kd.R_below (RU HO_402001.out) hb); replace HO_448000 := Aside0.mk (Kd.R_below (RU HO_448000.out) hb); replace HO_448001 := Aside0.mk (Kd.R_below (RU HO_448001.out) hb); replace BK356 := Aside0.mk (blk_below (g := gb356) (o := .cells #[.slice A0_0 l0_0.length c0_0, .slice A0_1 l0_1.length c0_1] 24 (0, 0)) (kU BK356.out) hb); replace BK357 := Aside0.mk (blk_below (g := gb357) (o := .cells #[.slice A1_0 l1_0.length c1_0, .slice A1_1 l1_1.length c1_1] 24 (0, 0)) (kU BK357.out) hb); replace BK379 := Aside0.mk (blk_below (g := gb379) (o := .cells #[.slice Ao43 t372.length co43, .slice Ao45 t375.length co45] 26 (0, 0)) (kU BK379.out) hb); replace BK386 := Aside0.mk (blk_below (g := gb386) (o := .cells #[.slice Ao51 t418.length co51, .slice Ao56 t419.length co56] 26 (0, 0)) (kU BK386.out) hb); replace BK393 := Aside0.mk (blk_below (g := gb393) (o := .cells #[.slice Ao61 t421.length co61, .slice Ao67 t422.length co67] 26 (0, 0)) (kU BK393.out) hb); replace BK401 := Aside0.mk (blk_below (g := gb401) (o := .cells #[.slice Ao71 t425.length co71, .slice Ao78 t426.length co78] 26 (0, 0)) (kU BK401.out) hb); replace BK447 := Aside0.mk (blk_below (g := gb447) (o := .cells #[.slice Ao169 t440.length co169, .slice Ao171 t443.length co171] 26 (0, 0)) (kU BK447.out) hb); replace HB := Aside0.mk (below_step (by repeat (first | (with_reducible first | exact HB.out | apply below_alloc | apply pw_below_drewN | apply below_drew1 | refine below_set ?_ GE356.out | refine below_set ?_ GE357.out | refine below_set ?_ GE379.out | refine below_set ?_ GE386.out | refine below_set ?_ GE393.out | refine below_set ?_ GE401.out | refine below_set ?_ GE447.out) | exact HB.out)) hb); (try clear hb); (try clear hb2); (try clear hk); (try clear hi)))
                  go_ret
                  exact ⟨by first | rfl | (simp [errW_none, errW_some] <;> rfl) | (simp [*, errW_none, errW_some] <;> rfl), by repeat (first | (with_reducible first | exact HB.out | apply below_alloc | apply pw_below_drewN | apply below_drew1 | refine below_set ?_ GE356.out | refine below_set ?_ GE357.out | refine below_set ?_ GE379.out | refine below_set ?_ GE386.out | refine below_set ?_ GE393.out | refine below_set ?_ GE401.out | refine below_set ?_ GE447.out) | exact HB.out)⟩
                 ·
                  rw [if_neg c192] at H
                  have c192b0 : (t449 == t424) = false := beq_eq_false_iff_ne.mpr c192
                  have c192b1 : (t449 != t424) = true := bne_iff_ne.mpr c192
                  obtain rfl := Option.some.inj H
                  exact absurd HT.out (by decide)
theorem laws_FnExactDrop.calls (k : Nat) (A0_0 : Option Addr) (c0_0 : Nat) (l0_0 : List Int) (A0_1 : Option Addr) (c0_1 : Nat) (l0_1 : List Int) (A1_0 : Option Addr) (c1_0 : Nat) (l1_0 : List Int) (A1_1 : Option Addr) (c1_1 : Nat) (l1_1 : List Int) (r : Bool) (w : World) (hr0_0 : Kd.C (Kd.int .i64) w A0_0 l0_0.length l0_0) (hc0_0 : l0_0.length ≤ c0_0) (hr0_1 : Kd.C (Kd.int .i64) w A0_1 l0_1.length l0_1) (hc0_1 : l0_1.length ≤ c0_1) (hr1_0 : Kd.C (Kd.int .i64) w A1_0 l1_0.length l1_0) (hc1_0 : l1_0.length ≤ c1_0) (hr1_1 : Kd.C (Kd.int .i64) w A1_1 l1_1.length l1_1) (hc1_1 : l1_1.length ≤ c1_1) (h : laws_FnExactDrop.f k l0_0 l0_1 l1_0 l1_1 = some r) (hT : r = true) :
    Calls Try.prog 3 #[.agg #[.slice A0_0 l0_0.length c0_0, .slice A0_1 l0_1.length c0_1], .agg #[.slice A1_0 l1_0.length c1_0, .slice A1_1 l1_1.length c1_1]] w fun e w' => e = .returned (.bool r) ∧ Below w.heap.size w w' := by
  exact (laws_FnExactDrop.part1.2 fun _ => laws_FnExactDrop.part2) k A0_0 c0_0 l0_0 A0_1 c0_1 l0_1 A1_0 c1_0 l1_0 A1_1 c1_1 l1_1 r w hr0_0 hc0_0 hr0_1 hc0_1 hr1_0 hc1_0 hr1_1 hc1_1 h hT
end Go.Proofs.Ytbiggdlopnpcbaa.PFnExactDrop
