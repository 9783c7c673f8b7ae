/- A law's walk, written in parts: this is part 2. It has no condition of its own. -/
import Derived.Test.YtcnbajdnlkcjjaaPFnExactJoinx3
namespace Go.Proofs.Ytcnbajdnlkcjjaa.PFnExactJoin
open Go.RowKit Go.Proofs.YtcnbajdnlkcjjaaW.PrintWords Go.Proofs.YtcnbajdnlkcjjaaW.PrintLast Go.Proofs.YtcnbajdnlkcjjaaW.PrintMore Go.Proofs.YtcnbajdnlkcjjaaQ
attribute [local go_sem] max2_int min2_int max_two min_two max_three min_three max_four min_four   -- for this text's walks alone
set_option linter.unusedVariables false
set_option linter.unusedSimpArgs false
set_option maxHeartbeats 8000000 in
set_option maxRecDepth 100000 in
theorem spec_Join.part2 : spec_Join.part1.1 := by
             intro k P0_0_ A0_0 c0_0 l0_0 P0_1_ A0_1 c0_1 l0_1 P1_0_ A1_0 c1_0 l1_0 P1_1_ A1_1 c1_1 l1_1 w hs0_0 hs0_1 hs1_0 hs1_1 hu26 gb166 w4 GW166 GE166 gb167 w5 GW167 GE167 NB166_167 NB167_166 gb168 w6 GW168 GE168 NB166_168 NB168_166 NB167_168 NB168_167 gb169 w7 HO0_0 HO0_1 HO1_0 HO1_1 _ GW169 GE169 _ NB166_169 NB169_166 _ NB167_169 NB169_167 _ NB168_169 NB169_168 _ hnb8 hnc8 hnb9 hnc9 hnb10 hnc10 wc u10 u11 u12 u13 u14 u15 u16 u17 u19 u20 u21 u22 u23 u25 u26 u27 u28 u29 u30 u31 u32 u34 u35 u36 u37 u38 u39 u40 u41 u42 u43 u44 u45 u46 u47 u48 u49 u50 u51 u52 u53 u54 u55 u56 u57 u58 u59 u60 u61 u62 u63 u64 u65 u66 u67 u68 kj2 HJ2 t172 t175 A37 t178 t181 A38 HT_ HW_ w51 _ gb184 gb185 w56 hS_ HO_167000 HO_167001 HO_168000 HO_168001 BK166 BK167 BK168 BK169 BK184 BK185 GW184 GE184 NB166_184 NB184_166 NB167_184 NB184_167 NB168_184 NB184_168 NB169_184 NB184_169 NB185_184 NB184_185 GW185 GE185 NB166_185 NB185_166 NB167_185 NB185_167 NB168_185 NB185_168 NB169_185 NB185_169 HB _ Ao57 co57 HO174 Ao59 co59 HO177 Ao61 co61 HO180 Ao63 co63 HO183 hs58 hfs58 hns58_0 hns58_1 hns58_2 hns58_3 hns58_5 hms58_0 hms58_1 hms58_2 hms58_3 hms58_5 hs60 hfs60 hns60_0 hns60_1 hns60_2 hns60_3 hns60_5 hms60_0 hms60_1 hms60_2 hms60_3 hms60_5 _ hs62 hfs62 hns62_0 hns62_1 hns62_2 hns62_3 hns62_4 hms62_0 hms62_1 hms62_2 hms62_3 hms62_4 hs64 hfs64 hns64_0 hns64_1 hns64_2 hns64_3 hns64_4 hms64_0 hms64_1 hms64_2 hms64_3 hms64_4 hHeld hnb65 hnc65 hnb66 hnc66 hnb67 hnc67 hnb68 hnc68 hnb69 hnc69 hcz70_0 hcz70_1 hfz70_0 hfz70_1 hnb71 hnc71 hnb72 hnc72 hnb73 hnc73 hnb74 hnc74 hcz75_0 hcz75_1 hfz75_0 hfz75_1 c39b0 c39b1 c39b2 c40b0 c40b1 y186 Ny186 c41b0 c41b1 y191 Ny191 A42 c44b0 c44b1 c45b0 c45b1 y199 Ny199 c46b0 y202 Ny202 LMc47 y207 Ny207 y210 Ny210 LMc48 y213 Ny213 LMc49 y216 Ny216 t219 t222 t225 A50 _ _ _ _ _ n0_ n1_ n2_
             have n3_ : Aside0 (Kd.V (Kd.int .i64) 3 ((((w56.setCell ⟨gb184, 0, none⟩ (.slice Ao57 t172.length co57)).setCell ⟨gb184, 1, none⟩ (.slice Ao59 t175.length co59)).setCell ⟨gb185, 0, none⟩ (.slice Ao61 t178.length co61)).setCell ⟨gb185, 1, none⟩ (.slice Ao63 t181.length co63)) w.heap.size (fun k_ => ((P0_0_ k_ ∨ P0_1_ k_ ∨ P1_0_ k_ ∨ P1_1_ k_) ∨ w.heap.size ≤ k_) ∧ k_ ≠ gb166 ∧ k_ ≠ gb167 ∧ k_ ≠ gb168 ∧ k_ ≠ gb169 ∧ k_ ≠ gb184 ∧ k_ ≠ gb185) (.slice A1_1 l1_1.length c1_1) l1_1) := ⟨by refine VU ?_; exact Kd.V_mono (Kd.V_far (p := ⟨gb185, 1, none⟩) (Kd.V_far (p := ⟨gb185, 0, none⟩) (Kd.V_far (p := ⟨gb184, 1, none⟩) (Kd.V_far (p := ⟨gb184, 0, none⟩) (Kd.V_mono (Kd.V_mono HO_168001.out (fun k_ hk => (⟨hk, hk.2.2.2.2.2.1⟩ : _ ∧ k_ ≠ gb184))) (fun k_ hk => (⟨hk, hk.1.2.2.2.2.2.2⟩ : _ ∧ k_ ≠ gb185))) (fun _ hk => hk.1.2) (.slice Ao57 t172.length co57)) (fun _ hk => hk.1.2) (.slice Ao59 t175.length co59)) (fun _ hk => hk.2) (.slice Ao61 t178.length co61)) (fun _ hk => hk.2) (.slice Ao63 t181.length co63)) (fun _ hk => ⟨hk.1.1.1, ⟨hk.1.1.2.1, ⟨hk.1.1.2.2.1, ⟨hk.1.1.2.2.2.1, ⟨hk.1.1.2.2.2.2.1, ⟨hk.1.1.2.2.2.2.2.1, hk.1.1.2.2.2.2.2.2⟩⟩⟩⟩⟩⟩)⟩
             have n4_ : Aside0 (Kd.V (Kd.int .i64) 3 ((((w56.setCell ⟨gb184, 0, none⟩ (.slice Ao57 t172.length co57)).setCell ⟨gb184, 1, none⟩ (.slice Ao59 t175.length co59)).setCell ⟨gb185, 0, none⟩ (.slice Ao61 t178.length co61)).setCell ⟨gb185, 1, none⟩ (.slice Ao63 t181.length co63)) w.heap.size (fun k_ => ((P0_0_ k_ ∨ P0_1_ k_ ∨ P1_0_ k_ ∨ P1_1_ k_) ∨ w.heap.size ≤ k_) ∧ k_ ≠ gb166 ∧ k_ ≠ gb167 ∧ k_ ≠ gb168 ∧ k_ ≠ gb169 ∧ k_ ≠ gb184 ∧ k_ ≠ gb185) (.slice Ao57 t172.length co57) t172) := ⟨by refine VU ?_; exact Kd.V_mono (Kd.V_far (p := ⟨gb185, 1, none⟩) (Kd.V_far (p := ⟨gb185, 0, none⟩) (Kd.V_far (p := ⟨gb184, 1, none⟩) (Kd.V_far (p := ⟨gb184, 0, none⟩) (Kd.V_mono (Kd.V_mono HO174.out (fun k_ hk => (⟨hk, hk.2.2.2.2.2.1⟩ : _ ∧ k_ ≠ gb184))) (fun k_ hk => (⟨hk, hk.1.2.2.2.2.2.2⟩ : _ ∧ k_ ≠ gb185))) (fun _ hk => hk.1.2) (.slice Ao57 t172.length co57)) (fun _ hk => hk.1.2) (.slice Ao59 t175.length co59)) (fun _ hk => hk.2) (.slice Ao61 t178.length co61)) (fun _ hk => hk.2) (.slice Ao63 t181.length co63)) (fun _ hk => ⟨hk.1.1.1, ⟨hk.1.1.2.1, ⟨hk.1.1.2.2.1, ⟨hk.1.1.2.2.2.1, ⟨hk.1.1.2.2.2.2.1, ⟨hk.1.1.2.2.2.2.2.1, hk.1.1.2.2.2.2.2.2⟩⟩⟩⟩⟩⟩)⟩
             have n5_ : Aside0 (Kd.V (Kd.int .i64) 3 ((((w56.setCell ⟨gb184, 0, none⟩ (.slice Ao57 t172.length co57)).setCell ⟨gb184, 1, none⟩ (.slice Ao59 t175.length co59)).setCell ⟨gb185, 0, none⟩ (.slice Ao61 t178.length co61)).setCell ⟨gb185, 1, none⟩ (.slice Ao63 t181.length co63)) w.heap.size (fun k_ => ((P0_0_ k_ ∨ P0_1_ k_ ∨ P1_0_ k_ ∨ P1_1_ k_) ∨ w.heap.size ≤ k_) ∧ k_ ≠ gb166 ∧ k_ ≠ gb167 ∧ k_ ≠ gb168 ∧ k_ ≠ gb169 ∧ k_ ≠ gb184 ∧ k_ ≠ gb185) (.slice Ao59 t175.length co59) t175) := ⟨by refine VU ?_; exact Kd.V_mono (Kd.V_far (p := ⟨gb185, 1, none⟩) (Kd.V_far (p := ⟨gb185, 0, none⟩) (Kd.V_far (p := ⟨gb184, 1, none⟩) (Kd.V_far (p := ⟨gb184, 0, none⟩) (Kd.V_mono (Kd.V_mono HO177.out (fun k_ hk => (⟨hk, hk.2.2.2.2.2.1⟩ : _ ∧ k_ ≠ gb184))) (fun k_ hk => (⟨hk, hk.1.2.2.2.2.2.2⟩ : _ ∧ k_ ≠ gb185))) (fun _ hk => hk.1.2) (.slice Ao57 t172.length co57)) (fun _ hk => hk.1.2) (.slice Ao59 t175.length co59)) (fun _ hk => hk.2) (.slice Ao61 t178.length co61)) (fun _ hk => hk.2) (.slice Ao63 t181.length co63)) (fun _ hk => ⟨hk.1.1.1, ⟨hk.1.1.2.1, ⟨hk.1.1.2.2.1, ⟨hk.1.1.2.2.2.1, ⟨hk.1.1.2.2.2.2.1, ⟨hk.1.1.2.2.2.2.2.1, hk.1.1.2.2.2.2.2.2⟩⟩⟩⟩⟩⟩)⟩
             have n6_ : Aside0 (Kd.V (Kd.int .i64) 3 ((((w56.setCell ⟨gb184, 0, none⟩ (.slice Ao57 t172.length co57)).setCell ⟨gb184, 1, none⟩ (.slice Ao59 t175.length co59)).setCell ⟨gb185, 0, none⟩ (.slice Ao61 t178.length co61)).setCell ⟨gb185, 1, none⟩ (.slice Ao63 t181.length co63)) w.heap.size (fun k_ => ((P0_0_ k_ ∨ P0_1_ k_ ∨ P1_0_ k_ ∨ P1_1_ k_) ∨ w.heap.size ≤ k_) ∧ k_ ≠ gb166 ∧ k_ ≠ gb167 ∧ k_ ≠ gb168 ∧ k_ ≠ gb169 ∧ k_ ≠ gb184 ∧ k_ ≠ gb185) (.slice Ao61 t178.length co61) t178) := ⟨by refine VU ?_; exact Kd.V_mono (Kd.V_far (p := ⟨gb185, 1, none⟩) (Kd.V_far (p := ⟨gb185, 0, none⟩) (Kd.V_far (p := ⟨gb184, 1, none⟩) (Kd.V_far (p := ⟨gb184, 0, none⟩) (Kd.V_mono (Kd.V_mono HO180.out (fun k_ hk => (⟨hk, hk.2.2.2.2.2.1⟩ : _ ∧ k_ ≠ gb184))) (fun k_ hk => (⟨hk, hk.1.2.2.2.2.2.2⟩ : _ ∧ k_ ≠ gb185))) (fun _ hk => hk.1.2) (.slice Ao57 t172.length co57)) (fun _ hk => hk.1.2) (.slice Ao59 t175.length co59)) (fun _ hk => hk.2) (.slice Ao61 t178.length co61)) (fun _ hk => hk.2) (.slice Ao63 t181.length co63)) (fun _ hk => ⟨hk.1.1.1, ⟨hk.1.1.2.1, ⟨hk.1.1.2.2.1, ⟨hk.1.1.2.2.2.1, ⟨hk.1.1.2.2.2.2.1, ⟨hk.1.1.2.2.2.2.2.1, hk.1.1.2.2.2.2.2.2⟩⟩⟩⟩⟩⟩)⟩
             have n7_ : Aside0 (Kd.V (Kd.int .i64) 3 ((((w56.setCell ⟨gb184, 0, none⟩ (.slice Ao57 t172.length co57)).setCell ⟨gb184, 1, none⟩ (.slice Ao59 t175.length co59)).setCell ⟨gb185, 0, none⟩ (.slice Ao61 t178.length co61)).setCell ⟨gb185, 1, none⟩ (.slice Ao63 t181.length co63)) w.heap.size (fun k_ => ((P0_0_ k_ ∨ P0_1_ k_ ∨ P1_0_ k_ ∨ P1_1_ k_) ∨ w.heap.size ≤ k_) ∧ k_ ≠ gb166 ∧ k_ ≠ gb167 ∧ k_ ≠ gb168 ∧ k_ ≠ gb169 ∧ k_ ≠ gb184 ∧ k_ ≠ gb185) (.slice Ao63 t181.length co63) t181) := ⟨by refine VU ?_; exact Kd.V_mono (Kd.V_far (p := ⟨gb185, 1, none⟩) (Kd.V_far (p := ⟨gb185, 0, none⟩) (Kd.V_far (p := ⟨gb184, 1, none⟩) (Kd.V_far (p := ⟨gb184, 0, none⟩) (Kd.V_mono (Kd.V_mono HO183.out (fun k_ hk => (⟨hk, hk.2.2.2.2.2.1⟩ : _ ∧ k_ ≠ gb184))) (fun k_ hk => (⟨hk, hk.1.2.2.2.2.2.2⟩ : _ ∧ k_ ≠ gb185))) (fun _ hk => hk.1.2) (.slice Ao57 t172.length co57)) (fun _ hk => hk.1.2) (.slice Ao59 t175.length co59)) (fun _ hk => hk.2) (.slice Ao61 t178.length co61)) (fun _ hk => hk.2) (.slice Ao63 t181.length co63)) (fun _ hk => ⟨hk.1.1.1, ⟨hk.1.1.2.1, ⟨hk.1.1.2.2.1, ⟨hk.1.1.2.2.2.1, ⟨hk.1.1.2.2.2.2.1, ⟨hk.1.1.2.2.2.2.2.1, hk.1.1.2.2.2.2.2.2⟩⟩⟩⟩⟩⟩)⟩
             have n8_ : Aside0 (((((w56.setCell ⟨gb184, 0, none⟩ (.slice Ao57 t172.length co57)).setCell ⟨gb184, 1, none⟩ (.slice Ao59 t175.length co59)).setCell ⟨gb185, 0, none⟩ (.slice Ao61 t178.length co61)).setCell ⟨gb185, 1, none⟩ (.slice Ao63 t181.length co63)).heap[gb166]? = some (.cells #[.slice A0_0 l0_0.length c0_0, .slice A0_1 l0_1.length c0_1] 26 (0, 0))) := ⟨by refine kU ?_; refine blk_far ?_ NB166_185.out _; refine kU ?_; refine blk_far ?_ NB166_185.out _; refine kU ?_; refine blk_far ?_ NB166_184.out _; refine kU ?_; refine blk_far ?_ NB166_184.out _; refine kU ?_; exact BK166.out⟩
             have n9_ : Aside0 (((((w56.setCell ⟨gb184, 0, none⟩ (.slice Ao57 t172.length co57)).setCell ⟨gb184, 1, none⟩ (.slice Ao59 t175.length co59)).setCell ⟨gb185, 0, none⟩ (.slice Ao61 t178.length co61)).setCell ⟨gb185, 1, none⟩ (.slice Ao63 t181.length co63)).heap[gb167]? = some (.cells #[.slice A1_0 l1_0.length c1_0, .slice A1_1 l1_1.length c1_1] 26 (0, 0))) := ⟨by refine kU ?_; refine blk_far ?_ NB167_185.out _; refine kU ?_; refine blk_far ?_ NB167_185.out _; refine kU ?_; refine blk_far ?_ NB167_184.out _; refine kU ?_; refine blk_far ?_ NB167_184.out _; refine kU ?_; exact BK167.out⟩
             have n10_ : Aside0 (((((w56.setCell ⟨gb184, 0, none⟩ (.slice Ao57 t172.length co57)).setCell ⟨gb184, 1, none⟩ (.slice Ao59 t175.length co59)).setCell ⟨gb185, 0, none⟩ (.slice Ao61 t178.length co61)).setCell ⟨gb185, 1, none⟩ (.slice Ao63 t181.length co63)).heap[gb168]? = some (.cells #[.slice none 0 0, .slice none 0 0] 26 (0, 0))) := ⟨by refine kU ?_; refine blk_far ?_ NB168_185.out _; refine kU ?_; refine blk_far ?_ NB168_185.out _; refine kU ?_; refine blk_far ?_ NB168_184.out _; refine kU ?_; refine blk_far ?_ NB168_184.out _; refine kU ?_; exact BK168.out⟩
             have n11_ : Aside0 (((((w56.setCell ⟨gb184, 0, none⟩ (.slice Ao57 t172.length co57)).setCell ⟨gb184, 1, none⟩ (.slice Ao59 t175.length co59)).setCell ⟨gb185, 0, none⟩ (.slice Ao61 t178.length co61)).setCell ⟨gb185, 1, none⟩ (.slice Ao63 t181.length co63)).heap[gb169]? = some (.cells #[.slice none 0 0, .slice none 0 0] 26 (0, 0))) := ⟨by refine kU ?_; refine blk_far ?_ NB169_185.out _; refine kU ?_; refine blk_far ?_ NB169_185.out _; refine kU ?_; refine blk_far ?_ NB169_184.out _; refine kU ?_; refine blk_far ?_ NB169_184.out _; refine kU ?_; exact BK169.out⟩
             have n12_ : Aside0 (((((w56.setCell ⟨gb184, 0, none⟩ (.slice Ao57 t172.length co57)).setCell ⟨gb184, 1, none⟩ (.slice Ao59 t175.length co59)).setCell ⟨gb185, 0, none⟩ (.slice Ao61 t178.length co61)).setCell ⟨gb185, 1, none⟩ (.slice Ao63 t181.length co63)).heap[gb184]? = some (.cells #[.slice Ao57 t172.length co57, .slice Ao59 t175.length co59] 26 (0, 0))) := ⟨by refine kU ?_; refine blk_far ?_ NB184_185.out _; refine kU ?_; refine blk_far ?_ NB184_185.out _; refine kU ?_; refine blk_put (cs := #[.slice Ao57 t172.length co57, .slice none 0 0]) ?_ 1 _ rfl; refine kU ?_; refine blk_put (cs := #[.slice none 0 0, .slice none 0 0]) ?_ 0 _ rfl; refine kU ?_; exact BK184.out⟩
             have n13_ : Aside0 (((((w56.setCell ⟨gb184, 0, none⟩ (.slice Ao57 t172.length co57)).setCell ⟨gb184, 1, none⟩ (.slice Ao59 t175.length co59)).setCell ⟨gb185, 0, none⟩ (.slice Ao61 t178.length co61)).setCell ⟨gb185, 1, none⟩ (.slice Ao63 t181.length co63)).heap[gb185]? = some (.cells #[.slice Ao61 t178.length co61, .slice Ao63 t181.length co63] 26 (0, 0))) := ⟨by refine kU ?_; refine blk_put (cs := #[.slice Ao61 t178.length co61, .slice none 0 0]) ?_ 1 _ rfl; refine kU ?_; refine blk_put (cs := #[.slice none 0 0, .slice none 0 0]) ?_ 0 _ rfl; refine kU ?_; refine blk_far ?_ NB185_184.out _; refine kU ?_; refine blk_far ?_ NB185_184.out _; refine kU ?_; exact BK185.out⟩
             have n14_ : Aside0 (Below w.heap.size w ((((w56.setCell ⟨gb184, 0, none⟩ (.slice Ao57 t172.length co57)).setCell ⟨gb184, 1, none⟩ (.slice Ao59 t175.length co59)).setCell ⟨gb185, 0, none⟩ (.slice Ao61 t178.length co61)).setCell ⟨gb185, 1, none⟩ (.slice Ao63 t181.length co63))) := ⟨by exact bS6 HB.out GE166.out GE167.out GE168.out GE169.out GE184.out GE185.out⟩
             (try clear HO_167000)
             (try clear HO_167001)
             (try clear HO_168000)
             (try clear HO_168001)
             (try clear HO174)
             (try clear HO177)
             (try clear HO180)
             (try clear HO183)
             (try clear BK166)
             (try clear BK167)
             (try clear BK168)
             (try clear BK169)
             (try clear BK184)
             (try clear BK185)
             (try clear HB)
             generalize ((((w56.setCell ⟨gb184, 0, none⟩ (.slice Ao57 t172.length co57)).setCell ⟨gb184, 1, none⟩ (.slice Ao59 t175.length co59)).setCell ⟨gb185, 0, none⟩ (.slice Ao61 t178.length co61)).setCell ⟨gb185, 1, none⟩ (.slice Ao63 t181.length co63)) = w76 at n0_ n1_ n2_ n3_ n4_ n5_ n6_ n7_ n8_ n9_ n10_ n11_ n12_ n13_ n14_ ⊢
             have HO_167000 := n0_
             have HO_167001 := n1_
             have HO_168000 := n2_
             have HO_168001 := n3_
             have HO174 := n4_
             have HO177 := n5_
             have HO180 := n6_
             have HO183 := n7_
             have BK166 := n8_
             have BK167 := n9_
             have BK168 := n10_
             have BK169 := n11_
             have BK184 := n12_
             have BK185 := n13_
             have HB := n14_
             clear n0_ n1_ n2_ n3_ n4_ n5_ n6_ n7_ n8_ n9_ n10_ n11_ n12_ n13_ n14_
             replace HO_167000 := Aside0.mk (Kd.V_drew HO_167000.out)
             replace HO_167001 := Aside0.mk (Kd.V_drew HO_167001.out)
             replace HO_168000 := Aside0.mk (Kd.V_drew HO_168000.out)
             replace HO_168001 := Aside0.mk (Kd.V_drew HO_168001.out)
             replace HO174 := Aside0.mk (Kd.V_drew HO174.out)
             replace HO177 := Aside0.mk (Kd.V_drew HO177.out)
             replace HO180 := Aside0.mk (Kd.V_drew HO180.out)
             replace HO183 := Aside0.mk (Kd.V_drew HO183.out)
             replace BK166 := Aside0.mk (blk_drew BK166.out)
             replace BK167 := Aside0.mk (blk_drew BK167.out)
             replace BK168 := Aside0.mk (blk_drew BK168.out)
             replace BK169 := Aside0.mk (blk_drew BK169.out)
             replace BK184 := Aside0.mk (blk_drew BK184.out)
             replace BK185 := Aside0.mk (blk_drew BK185.out)
             replace HB := Aside0.mk (below_drew1 HB.out)
             have q78 : (1 : Int) ≤ ((t172.length : Int) : Int) := of_decide_eq_true (by first | (with_reducible assumption) | assumption)
             obtain ⟨i078, hi078, _, hsz78, _⟩ := info_parts info3
             have hroom78 : t172.length ≤ co57 := (Kd.V_reads' HO174.out).2.1
             have hC78 : Kd.F (Kd.int .i64) _ _ Ao57 t172.length t172 := (Kd.V_at (base := w.heap.size) HO174.out).2.2
             have hcut78 := cut_from (P := Try.prog) 22 3 .i64 Try.underlying22 hi078 1 hsz78 Ao57 t172.length co57 1 (by omega) q78
             have hr78 := Kd.F_cut (m := (1 : Int).toNat) (c := co57) hC78 (by omega) hroom78
             obtain ⟨A78, hA78⟩ : ∃ A1, A1 = (if co57 = (1 : Int).toNat then Ao57 else (Ao57 : Option Addr).map (·.add ((1 : Int).toNat * 1))) := ⟨_, rfl⟩
             obtain ⟨c78, hc78⟩ : ∃ c1, c1 = co57 - (1 : Int).toNat := ⟨_, rfl⟩
             have hy78 : y186.length = t172.length - (1 : Int).toNat := (by rw [Ny186.out, List.length_drop] <;> omega)
             rw [show (t172).drop (1 : Int).toNat = y186 from Ny186.out.symm] at hr78
             replace hr78 : Kd.F (Kd.int .i64) _ _ A78 y186.length y186 := (by rw [hA78]; exact hr78)
             rw [← hy78, ← hA78, ← hc78] at hcut78
             have HO190 := Aside0.mk (show Kd.V (Kd.int .i64) 3 _ w.heap.size _ (.slice A78 y186.length c78) y186 from Kd.V_mk (by rw [hy78, hc78]; exact Nat.sub_le_sub_right hroom78 _) hr78)
             have HC190 := Aside0.mk (show y186.length ≤ c78 from by rw [hy78, hc78]; exact Nat.sub_le_sub_right hroom78 _)
             clear hr78 hC78 hroom78 hi078 hsz78 hc78
             have KY78 := Aside0.mk hy78
             have KA78 := Aside0.mk hA78
             clear hy78 hA78
             replace q78 := eq_true q78
             have q79 : (1 : Int) ≤ ((t178.length : Int) : Int) := of_decide_eq_true (by first | (with_reducible assumption) | assumption)
             obtain ⟨i079, hi079, _, hsz79, _⟩ := info_parts info3
             have hroom79 : t178.length ≤ co61 := (Kd.V_reads' HO180.out).2.1
             have hC79 : Kd.F (Kd.int .i64) _ _ Ao61 t178.length t178 := (Kd.V_at (base := w.heap.size) HO180.out).2.2
             have hcut79 := cut_from (P := Try.prog) 22 3 .i64 Try.underlying22 hi079 1 hsz79 Ao61 t178.length co61 1 (by omega) q79
             have hr79 := Kd.F_cut (m := (1 : Int).toNat) (c := co61) hC79 (by omega) hroom79
             obtain ⟨A79, hA79⟩ : ∃ A1, A1 = (if co61 = (1 : Int).toNat then Ao61 else (Ao61 : Option Addr).map (·.add ((1 : Int).toNat * 1))) := ⟨_, rfl⟩
             obtain ⟨c79, hc79⟩ : ∃ c1, c1 = co61 - (1 : Int).toNat := ⟨_, rfl⟩
             have hy79 : y191.length = t178.length - (1 : Int).toNat := (by rw [Ny191.out, List.length_drop] <;> omega)
             rw [show (t178).drop (1 : Int).toNat = y191 from Ny191.out.symm] at hr79
             replace hr79 : Kd.F (Kd.int .i64) _ _ A79 y191.length y191 := (by rw [hA79]; exact hr79)
             rw [← hy79, ← hA79, ← hc79] at hcut79
             have HO195 := Aside0.mk (show Kd.V (Kd.int .i64) 3 _ w.heap.size _ (.slice A79 y191.length c79) y191 from Kd.V_mk (by rw [hy79, hc79]; exact Nat.sub_le_sub_right hroom79 _) hr79)
             have HC195 := Aside0.mk (show y191.length ≤ c79 from by rw [hy79, hc79]; exact Nat.sub_le_sub_right hroom79 _)
             clear hr79 hC79 hroom79 hi079 hsz79 hc79
             have KY79 := Aside0.mk hy79
             have KA79 := Aside0.mk hA79
             clear hy79 hA79
             replace q79 := eq_true q79
             refine start_ (n := 9) (S := fun w' => w'.cell? ⟨gb184, 0, none⟩ = some (.slice Ao57 t172.length co57) ∧ w'.cell? ⟨gb184, 1, none⟩ = some (.slice Ao59 t175.length co59) ∧ w'.cell? ⟨gb185, 0, none⟩ = some (.slice Ao61 t178.length co61) ∧ w'.cell? ⟨gb185, 1, none⟩ = some (.slice Ao63 t181.length co63)) (ds := []) #[false, false, false, false, false, false, false, false, false] (by kernel_rfl) rfl rfl ⟨(blk_cell BK184.out 0).trans rfl, (blk_cell BK184.out 1).trans rfl, (blk_cell BK185.out 0).trans rfl, (blk_cell BK185.out 1).trans rfl⟩ (fun hHeld => ?_); refine with_tabW spec_Join.tab7 spec_Join.bits7 (fun HT_ HW_ => ?_)
             generalize w76.drew = w77 at HO_167000 HO_167001 HO_168000 HO_168001 HO174 HO177 HO180 HO183 BK166 BK167 BK168 BK169 BK184 BK185 HB HO190 HO195 hHeld ⊢
             refine pure_ (i := 0) (N := some 34) (v := ?_) (a' := ?_) #[true, false, false, false, false, false, false, false, false] rfl rfl (any_of HT_.out (by kernel_rfl)) (fun _ _ _ h => h) (Or.inl ⟨by rfl, ?_⟩) ?_ ?_
             rotate_left
             ·
              intro w'
              go_simp
              with_reducible rfl
             rotate_left
             ·
              simp only [Act.put, List.setIfInBounds_toArray, List.set_cons_zero, List.set_cons_succ, i64_w, i32_w]
              rfl
             refine pure_ (i := 3) (N := some 37) (v := ?_) (a' := ?_) #[true, false, false, true, false, false, false, false, false] rfl rfl (any_of HT_.out (by kernel_rfl)) (fun _ _ _ h => h) (Or.inl ⟨by rfl, ?_⟩) ?_ ?_
             rotate_left
             ·
              intro w'
              go_simp
              with_reducible rfl
             rotate_left
             ·
              simp only [Act.put, List.setIfInBounds_toArray, List.set_cons_zero, List.set_cons_succ, i64_w, i32_w]
              rfl
             refine take_ (i := 1) (N := some 35) (v := ?_) (a' := ?_) #[true, true, false, true, false, false, false, false, false] rfl rfl (take_ofW HT_.out HW_.out (by kernel_rfl)) (fun _ _ _ h => h) (Or.inl ⟨by rfl, ?_⟩) hHeld ?_ ?_
             rotate_left
             ·
              rintro w' ⟨s0, s1, s2, s3⟩
              go_simp
              with_reducible rfl
             rotate_left
             ·
              simp only [Act.put, List.setIfInBounds_toArray, List.set_cons_zero, List.set_cons_succ, i64_w, i32_w]
              rfl
             refine pure_ (i := 2) (N := some 36) (v := ?_) (a' := ?_) #[true, true, true, true, false, false, false, false, false] rfl rfl (any_of HT_.out (by kernel_rfl)) (fun _ _ _ h => h) (Or.inl ⟨by rfl, ?_⟩) ?_ ?_
             rotate_left
             ·
              intro w'
              go_simp
              with_reducible rfl
             rotate_left
             ·
              simp only [Act.put, List.setIfInBounds_toArray, List.set_cons_zero, List.set_cons_succ, i64_w, i32_w]
              rfl
             refine take_ (i := 4) (N := some 38) (v := ?_) (a' := ?_) #[true, true, true, true, true, false, false, false, false] rfl rfl (take_ofW HT_.out HW_.out (by kernel_rfl)) (fun _ _ _ h => h) (Or.inl ⟨by rfl, ?_⟩) hHeld ?_ ?_
             rotate_left
             ·
              rintro w' ⟨s0, s1, s2, s3⟩
              go_simp
              with_reducible rfl
             rotate_left
             ·
              simp only [Act.put, List.setIfInBounds_toArray, List.set_cons_zero, List.set_cons_succ, i64_w, i32_w]
              rfl
             refine pure_ (i := 5) (N := some 39) (v := ?_) (a' := ?_) #[true, true, true, true, true, true, false, false, false] rfl rfl (any_of HT_.out (by kernel_rfl)) (fun _ _ _ h => h) (Or.inl ⟨by rfl, ?_⟩) ?_ ?_
             rotate_left
             ·
              intro w'
              go_simp
              with_reducible rfl
             rotate_left
             ·
              simp only [Act.put, List.setIfInBounds_toArray, List.set_cons_zero, List.set_cons_succ, i64_w, i32_w]
              rfl
             refine one_ (i := 6) (N := some 40) #[true, true, true, true, true, true, true, false, false] rfl rfl (one_of HT_.out (by kernel_rfl)) (by decide) (fun K hK => ?_)
             refine goes_ Try.func101 (by kernel_rfl) rfl #[.slice A78 y186.length c78, .slice A79 y191.length c79] (by rfl) rfl rfl lU ?_
             with_reducible refine (spec_l2Same.calls kj2 _ _ y186 _ _ y191 true _ ?side1 ?side2 ?side3 ?side4 A42.out).mono ?_
             (case side1 => exact cU (Kd.V_reads' HO190.out).2.2)
             (case side2 => exact (Kd.V_reads' HO190.out).2.1)
             (case side3 => exact cU (Kd.V_reads' HO195.out).2.2)
             (case side4 => exact (Kd.V_reads' HO195.out).2.1)
             rintro e w' ⟨rfl, ⟨nd, rfl⟩⟩
             refine ⟨_, rfl, ?_⟩
             refine hK.out _ _ ⟨(blk_cell BK184.out 0).trans rfl, (blk_cell BK184.out 1).trans rfl, (blk_cell BK185.out 0).trans rfl, (blk_cell BK185.out 1).trans rfl⟩ (fun hHeld => ?_)
             clear hK K
             refine norm_ (a' := ?_) ?_ ?_
             rotate_left
             ·
              show Act.put _ (some 40) _ = _
              simp only [Act.put, List.setIfInBounds_toArray, List.set_cons_zero, List.set_cons_succ, i64_w, i32_w]
              rfl
             refine pure_ (i := 7) (N := some 41) (v := ?_) (a' := ?_) #[true, true, true, true, true, true, true, true, false] rfl rfl (any_of HT_.out (by kernel_rfl)) (fun _ _ _ h => h) (Or.inl ⟨by rfl, ?_⟩) ?_ ?_
             rotate_left
             ·
              intro w'
              go_simp
              with_reducible rfl
             rotate_left
             ·
              simp only [Act.put, List.setIfInBounds_toArray, List.set_cons_zero, List.set_cons_succ, i64_w, i32_w]
              rfl
             refine pure_ (i := 8) (N := some 33) (v := ?_) (a' := ?_) #[true, true, true, true, true, true, true, true, true] rfl rfl (any_of HT_.out (by kernel_rfl)) (fun _ _ _ h => h) (Or.inl ⟨by rfl, ?_⟩) ?_ ?_
             rotate_left
             ·
              intro w'
              go_simp
              with_reducible rfl
             rotate_left
             ·
              simp only [Act.put, List.setIfInBounds_toArray, List.set_cons_zero, List.set_cons_succ, i64_w, i32_w]
              rfl
             refine done_ (done_of HT_.out (by kernel_rfl)) ?_
             try go_wp2
             (try (rw [drewN_self w77]; generalize hq_ : World.drewN w77 _ = w77; have n0_ : Aside0 (Kd.V (Kd.int .i64) 3 w77 w.heap.size (fun k_ => ((P0_0_ k_ ∨ P0_1_ k_ ∨ P1_0_ k_ ∨ P1_1_ k_) ∨ w.heap.size ≤ k_) ∧ k_ ≠ gb166 ∧ k_ ≠ gb167 ∧ k_ ≠ gb168 ∧ k_ ≠ gb169 ∧ k_ ≠ gb184 ∧ k_ ≠ gb185) (.slice Ao57 t172.length co57) t172) := ⟨by rw [← hq_]; exact (VU HO174.out)⟩; have n1_ : Aside0 (Kd.V (Kd.int .i64) 3 w77 w.heap.size (fun k_ => ((P0_0_ k_ ∨ P0_1_ k_ ∨ P1_0_ k_ ∨ P1_1_ k_) ∨ w.heap.size ≤ k_) ∧ k_ ≠ gb166 ∧ k_ ≠ gb167 ∧ k_ ≠ gb168 ∧ k_ ≠ gb169 ∧ k_ ≠ gb184 ∧ k_ ≠ gb185) (.slice Ao59 t175.length co59) t175) := ⟨by rw [← hq_]; exact (VU HO177.out)⟩; have n2_ : Aside0 (Kd.V (Kd.int .i64) 3 w77 w.heap.size (fun k_ => ((P0_0_ k_ ∨ P0_1_ k_ ∨ P1_0_ k_ ∨ P1_1_ k_) ∨ w.heap.size ≤ k_) ∧ k_ ≠ gb166 ∧ k_ ≠ gb167 ∧ k_ ≠ gb168 ∧ k_ ≠ gb169 ∧ k_ ≠ gb184 ∧ k_ ≠ gb185) (.slice Ao61 t178.length co61) t178) := ⟨by rw [← hq_]; exact (VU HO180.out)⟩; have n3_ : Aside0 (Kd.V (Kd.int .i64) 3 w77 w.heap.size (fun k_ => ((P0_0_ k_ ∨ P0_1_ k_ ∨ P1_0_ k_ ∨ P1_1_ k_) ∨ w.heap.size ≤ k_) ∧ k_ ≠ gb166 ∧ k_ ≠ gb167 ∧ k_ ≠ gb168 ∧ k_ ≠ gb169 ∧ k_ ≠ gb184 ∧ k_ ≠ gb185) (.slice Ao63 t181.length co63) t181) := ⟨by rw [← hq_]; exact (VU HO183.out)⟩; have n4_ : Aside0 (Kd.V (Kd.int .i64) 3 w77 w.heap.size (fun k_ => ((P0_0_ k_ ∨ P0_1_ k_ ∨ P1_0_ k_ ∨ P1_1_ k_) ∨ w.heap.size ≤ k_) ∧ k_ ≠ gb166 ∧ k_ ≠ gb167 ∧ k_ ≠ gb168 ∧ k_ ≠ gb169 ∧ k_ ≠ gb184 ∧ k_ ≠ gb185) (.slice A78 y186.length c78) y186) := ⟨by rw [← hq_]; exact (VU HO190.out)⟩; have n5_ : Aside0 (Kd.V (Kd.int .i64) 3 w77 w.heap.size (fun k_ => ((P0_0_ k_ ∨ P0_1_ k_ ∨ P1_0_ k_ ∨ P1_1_ k_) ∨ w.heap.size ≤ k_) ∧ k_ ≠ gb166 ∧ k_ ≠ gb167 ∧ k_ ≠ gb168 ∧ k_ ≠ gb169 ∧ k_ ≠ gb184 ∧ k_ ≠ gb185) (.slice A79 y191.length c79) y191) := ⟨by rw [← hq_]; exact (VU HO195.out)⟩; have n6_ : Aside0 (Kd.V (Kd.int .i64) 3 w77 w.heap.size (fun k_ => ((P0_0_ k_ ∨ P0_1_ k_ ∨ P1_0_ k_ ∨ P1_1_ k_) ∨ w.heap.size ≤ k_) ∧ k_ ≠ gb166 ∧ k_ ≠ gb167 ∧ k_ ≠ gb168 ∧ k_ ≠ gb169 ∧ k_ ≠ gb184 ∧ k_ ≠ gb185) (.slice A0_0 l0_0.length c0_0) l0_0) := ⟨by rw [← hq_]; exact (VU HO_167000.out)⟩; have n7_ : Aside0 (Kd.V (Kd.int .i64) 3 w77 w.heap.size (fun k_ => ((P0_0_ k_ ∨ P0_1_ k_ ∨ P1_0_ k_ ∨ P1_1_ k_) ∨ w.heap.size ≤ k_) ∧ k_ ≠ gb166 ∧ k_ ≠ gb167 ∧ k_ ≠ gb168 ∧ k_ ≠ gb169 ∧ k_ ≠ gb184 ∧ k_ ≠ gb185) (.slice A0_1 l0_1.length c0_1) l0_1) := ⟨by rw [← hq_]; exact (VU HO_167001.out)⟩; have n8_ : Aside0 (Kd.V (Kd.int .i64) 3 w77 w.heap.size (fun k_ => ((P0_0_ k_ ∨ P0_1_ k_ ∨ P1_0_ k_ ∨ P1_1_ k_) ∨ w.heap.size ≤ k_) ∧ k_ ≠ gb166 ∧ k_ ≠ gb167 ∧ k_ ≠ gb168 ∧ k_ ≠ gb169 ∧ k_ ≠ gb184 ∧ k_ ≠ gb185) (.slice A1_0 l1_0.length c1_0) l1_0) := ⟨by rw [← hq_]; exact (VU HO_168000.out)⟩; have n9_ : Aside0 (Kd.V (Kd.int .i64) 3 w77 w.heap.size (fun k_ => ((P0_0_ k_ ∨ P0_1_ k_ ∨ P1_0_ k_ ∨ P1_1_ k_) ∨ w.heap.size ≤ k_) ∧ k_ ≠ gb166 ∧ k_ ≠ gb167 ∧ k_ ≠ gb168 ∧ k_ ≠ gb169 ∧ k_ ≠ gb184 ∧ k_ ≠ gb185) (.slice A1_1 l1_1.length c1_1) l1_1) := ⟨by rw [← hq_]; exact (VU HO_168001.out)⟩; have n10_ : Aside0 (w77.heap[gb166]? = some (.cells #[.slice A0_0 l0_0.length c0_0, .slice A0_1 l0_1.length c0_1] 26 (0, 0))) := ⟨by rw [← hq_]; exact (kU BK166.out)⟩; have n11_ : Aside0 (w77.heap[gb167]? = some (.cells #[.slice A1_0 l1_0.length c1_0, .slice A1_1 l1_1.length c1_1] 26 (0, 0))) := ⟨by rw [← hq_]; exact (kU BK167.out)⟩; have n12_ : Aside0 (w77.heap[gb168]? = some (.cells #[.slice none 0 0, .slice none 0 0] 26 (0, 0))) := ⟨by rw [← hq_]; exact (kU BK168.out)⟩; have n13_ : Aside0 (w77.heap[gb169]? = some (.cells #[.slice none 0 0, .slice none 0 0] 26 (0, 0))) := ⟨by rw [← hq_]; exact (kU BK169.out)⟩; have n14_ : Aside0 (w77.heap[gb184]? = some (.cells #[.slice Ao57 t172.length co57, .slice Ao59 t175.length co59] 26 (0, 0))) := ⟨by rw [← hq_]; exact (kU BK184.out)⟩; have n15_ : Aside0 (w77.heap[gb185]? = some (.cells #[.slice Ao61 t178.length co61, .slice Ao63 t181.length co63] 26 (0, 0))) := ⟨by rw [← hq_]; exact (kU BK185.out)⟩; have n16_ : Aside0 (Below w.heap.size w w77) := ⟨by rw [← hq_]; exact (bS6 HB.out GE166.out GE167.out GE168.out GE169.out GE184.out GE185.out)⟩; clear HO174 HO177 HO180 HO183 HO190 HO195 HO_167000 HO_167001 HO_168000 HO_168001 BK166 BK167 BK168 BK169 BK184 BK185 HB hq_; have HO174 := n0_; have HO177 := n1_; have HO180 := n2_; have HO183 := n3_; have HO190 := n4_; have HO195 := n5_; have HO_167000 := n6_; have HO_167001 := n7_; have HO_168000 := n8_; have HO_168001 := n9_; have BK166 := n10_; have BK167 := n11_; have BK168 := n12_; have BK169 := n13_; have BK184 := n14_; have BK185 := n15_; have HB := n16_; clear n0_ n1_ n2_ n3_ n4_ n5_ n6_ n7_ n8_ n9_ n10_ n11_ n12_ n13_ n14_ n15_ n16_))
             replace HO_167000 := Aside0.mk (Kd.V_drew HO_167000.out)
             replace HO_167001 := Aside0.mk (Kd.V_drew HO_167001.out)
             replace HO_168000 := Aside0.mk (Kd.V_drew HO_168000.out)
             replace HO_168001 := Aside0.mk (Kd.V_drew HO_168001.out)
             replace HO174 := Aside0.mk (Kd.V_drew HO174.out)
             replace HO177 := Aside0.mk (Kd.V_drew HO177.out)
             replace HO180 := Aside0.mk (Kd.V_drew HO180.out)
             replace HO183 := Aside0.mk (Kd.V_drew HO183.out)
             replace HO190 := Aside0.mk (Kd.V_drew HO190.out)
             replace HO195 := Aside0.mk (Kd.V_drew HO195.out)
             replace BK166 := Aside0.mk (blk_drew BK166.out)
             replace BK167 := Aside0.mk (blk_drew BK167.out)
             replace BK168 := Aside0.mk (blk_drew BK168.out)
             replace BK169 := Aside0.mk (blk_drew BK169.out)
             replace BK184 := Aside0.mk (blk_drew BK184.out)
             replace BK185 := Aside0.mk (blk_drew BK185.out)
             replace HB := Aside0.mk (below_drew1 HB.out)
             have p197 : 0 ≤ (0 : Int) := (by omega)
             have q197 : 0 < (t172.length : Int) := of_decide_eq_true (by first | (with_reducible assumption) | assumption)
             obtain ⟨ad197, e197, hx197_0⟩ := Kd.at_int (Kd.V_reads' HO174.out).2.2 0 p197 q197
             cases e197
             have qi197 : (0 < t172.length) = True := eq_true (by omega)
             (try rw [show ((0 : Int)).toNat = 0 from rfl] at hx197_0)
             (try rw [Addr.add_zero'] at hx197_0)
             replace p197 := eq_true p197
             replace q197 := eq_true q197
             have p198 : 0 ≤ (0 : Int) := (by omega)
             have q198 : 0 < (t178.length : Int) := of_decide_eq_true (by first | (with_reducible assumption) | assumption)
             obtain ⟨ad198, e198, hx198_0⟩ := Kd.at_int (Kd.V_reads' HO180.out).2.2 0 p198 q198
             cases e198
             have qi198 : (0 < t178.length) = True := eq_true (by omega)
             (try rw [show ((0 : Int)).toNat = 0 from rfl] at hx198_0)
             (try rw [Addr.add_zero'] at hx198_0)
             replace p198 := eq_true p198
             replace q198 := eq_true q198
             have q81 : (1 : Int) ≤ ((t172.length : Int) : Int) := of_decide_eq_true (by first | (with_reducible assumption) | assumption)
             obtain ⟨i081, hi081, _, hsz81, _⟩ := info_parts info3
             have hroom81 : t172.length ≤ co57 := (Kd.V_reads' HO174.out).2.1
             have hC81 : Kd.F (Kd.int .i64) _ _ (some ad197) t172.length t172 := (Kd.V_at (base := w.heap.size) HO174.out).2.2
             (try clear hcut78)
             have hcut81 := cut_from (P := Try.prog) 22 3 .i64 Try.underlying22 hi081 1 hsz81 (some ad197) t172.length co57 1 (by omega) q81
             have hr81 := Kd.F_cut (m := (1 : Int).toNat) (c := co57) hC81 (by omega) hroom81
             obtain ⟨A81, hA81⟩ : ∃ A1, A1 = (if co57 = (1 : Int).toNat then (some ad197) else ((some ad197) : Option Addr).map (·.add ((1 : Int).toNat * 1))) := ⟨_, rfl⟩
             obtain ⟨c81, hc81⟩ : ∃ c1, c1 = co57 - (1 : Int).toNat := ⟨_, rfl⟩
             have hy81 : y202.length = t172.length - (1 : Int).toNat := (by rw [Ny202.out, List.length_drop] <;> omega)
             rw [show (t172).drop (1 : Int).toNat = y202 from Ny202.out.symm] at hr81
             replace hr81 : Kd.F (Kd.int .i64) _ _ A81 y202.length y202 := (by rw [hA81]; exact hr81)
             rw [← hy81, ← hA81, ← hc81] at hcut81
             have HO206 := Aside0.mk (show Kd.V (Kd.int .i64) 3 _ w.heap.size _ (.slice A81 y202.length c81) y202 from Kd.V_mk (by rw [hy81, hc81]; exact Nat.sub_le_sub_right hroom81 _) hr81)
             have HC206 := Aside0.mk (show y202.length ≤ c81 from by rw [hy81, hc81]; exact Nat.sub_le_sub_right hroom81 _)
             clear hr81 hC81 hroom81 hi081 hsz81 hc81
             have KY81 := Aside0.mk hy81
             have KA81 := Aside0.mk hA81
             clear hy81 hA81
             replace q81 := eq_true q81
             refine start_ (n := 15) (S := fun w' => w'.cell? ⟨gb184, 0, none⟩ = some (.slice (some ad197) t172.length co57) ∧ w'.cell? ⟨gb184, 1, none⟩ = some (.slice Ao59 t175.length co59) ∧ w'.cell? ⟨gb185, 0, none⟩ = some (.slice (some ad198) t178.length co61) ∧ w'.cell? ⟨gb185, 1, none⟩ = some (.slice Ao63 t181.length co63) ∧ w'.cell? ad197 = some (.int .i64 (rd t172 0)) ∧ w'.cell? ad198 = some (.int .i64 (rd t178 0))) (ds := [13]) #[false, false, false, false, false, false, false, false, false, false, false, false, false, false, false] (by kernel_rfl) rfl rfl ⟨(blk_cell BK184.out 0).trans rfl, (blk_cell BK184.out 1).trans rfl, (blk_cell BK185.out 0).trans rfl, (blk_cell BK185.out 1).trans rfl, hx197_0, hx198_0⟩ (fun hHeld => ?_); refine with_tabW spec_Join.tab9 spec_Join.bits9 (fun HT_ HW_ => ?_)
             generalize w77.drew = w80 at HO_167000 HO_167001 HO_168000 HO_168001 HO174 HO177 HO180 HO183 HO190 HO195 BK166 BK167 BK168 BK169 BK184 BK185 HB HO206 hx197_0 hx198_0 hHeld ⊢
             refine pure_ (i := 0) (N := some 43) (v := ?_) (a' := ?_) #[true, false, false, false, false, false, false, false, false, false, false, false, false, false, false] rfl rfl (any_of HT_.out (by kernel_rfl)) (fun _ _ _ h => h) (Or.inl ⟨by rfl, ?_⟩) ?_ ?_
             rotate_left
             ·
              intro w'
              go_simp
              with_reducible rfl
             rotate_left
             ·
              simp only [Act.put, List.setIfInBounds_toArray, List.set_cons_zero, List.set_cons_succ, i64_w, i32_w]
              rfl
             refine pure_ (i := 4) (N := some 47) (v := ?_) (a' := ?_) #[true, false, false, false, true, false, false, false, false, false, false, false, false, false, false] rfl rfl (any_of HT_.out (by kernel_rfl)) (fun _ _ _ h => h) (Or.inl ⟨by rfl, ?_⟩) ?_ ?_
             rotate_left
             ·
              intro w'
              go_simp
              with_reducible rfl
             rotate_left
             ·
              simp only [Act.put, List.setIfInBounds_toArray, List.set_cons_zero, List.set_cons_succ, i64_w, i32_w]
              rfl
             refine pure_ (i := 10) (N := some 53) (v := ?_) (a' := ?_) #[true, false, false, false, true, false, false, false, false, false, true, false, false, false, false] rfl rfl (any_of HT_.out (by kernel_rfl)) (fun _ _ _ h => h) (Or.inl ⟨by rfl, ?_⟩) ?_ ?_
             rotate_left
             ·
              intro w'
              go_simp
              with_reducible rfl
             rotate_left
             ·
              simp only [Act.put, List.setIfInBounds_toArray, List.set_cons_zero, List.set_cons_succ, i64_w, i32_w]
              rfl
             refine take_ (i := 1) (N := some 44) (v := ?_) (a' := ?_) #[true, true, false, false, true, false, false, false, false, false, true, false, false, false, false] rfl rfl (take_ofW HT_.out HW_.out (by kernel_rfl)) (fun _ _ _ h => h) (Or.inl ⟨by rfl, ?_⟩) hHeld ?_ ?_
             rotate_left
             ·
              rintro w' ⟨s0, s1, s2, s3, s4, s5⟩
              go_simp
              with_reducible rfl
             rotate_left
             ·
              simp only [Act.put, List.setIfInBounds_toArray, List.set_cons_zero, List.set_cons_succ, i64_w, i32_w]
              rfl
             refine pure_ (i := 2) (N := some 45) (v := ?_) (a' := ?_) #[true, true, true, false, true, false, false, false, false, false, true, false, false, false, false] rfl rfl (any_of HT_.out (by kernel_rfl)) (fun _ _ _ h => h) (Or.inl ⟨by rfl, ?_⟩) ?_ ?_
             rotate_left
             ·
              intro w'
              go_simp
              with_reducible rfl
             rotate_left
             ·
              simp only [Act.put, List.setIfInBounds_toArray, List.set_cons_zero, List.set_cons_succ, i64_w, i32_w]
              rfl
             refine take_ (i := 3) (N := some 46) (v := ?_) (a' := ?_) #[true, true, true, true, true, false, false, false, false, false, true, false, false, false, false] rfl rfl (take_ofW HT_.out HW_.out (by kernel_rfl)) (fun _ _ _ h => h) (Or.inl ⟨by rfl, ?_⟩) hHeld ?_ ?_
             rotate_left
             ·
              rintro w' ⟨s0, s1, s2, s3, s4, s5⟩
              go_simp
              with_reducible rfl
             rotate_left
             ·
              simp only [Act.put, List.setIfInBounds_toArray, List.set_cons_zero, List.set_cons_succ, i64_w, i32_w]
              rfl
             refine take_ (i := 5) (N := some 48) (v := ?_) (a' := ?_) #[true, true, true, true, true, true, false, false, false, false, true, false, false, false, false] rfl rfl (take_ofW HT_.out HW_.out (by kernel_rfl)) (fun _ _ _ h => h) (Or.inl ⟨by rfl, ?_⟩) hHeld ?_ ?_
             rotate_left
             ·
              rintro w' ⟨s0, s1, s2, s3, s4, s5⟩
              go_simp
              with_reducible rfl
             rotate_left
             ·
              simp only [Act.put, List.setIfInBounds_toArray, List.set_cons_zero, List.set_cons_succ, i64_w, i32_w]
              rfl
             refine pure_ (i := 6) (N := some 49) (v := ?_) (a' := ?_) #[true, true, true, true, true, true, true, false, false, false, true, false, false, false, false] rfl rfl (any_of HT_.out (by kernel_rfl)) (fun _ _ _ h => h) (Or.inl ⟨by rfl, ?_⟩) ?_ ?_
             rotate_left
             ·
              intro w'
              go_simp
              with_reducible rfl
             rotate_left
             ·
              simp only [Act.put, List.setIfInBounds_toArray, List.set_cons_zero, List.set_cons_succ, i64_w, i32_w]
              rfl
             refine take_ (i := 7) (N := some 50) (v := ?_) (a' := ?_) #[true, true, true, true, true, true, true, true, false, false, true, false, false, false, false] rfl rfl (take_ofW HT_.out HW_.out (by kernel_rfl)) (fun _ _ _ h => h) (Or.inl ⟨by rfl, ?_⟩) hHeld ?_ ?_
             rotate_left
             ·
              rintro w' ⟨s0, s1, s2, s3, s4, s5⟩
              go_simp
              with_reducible rfl
             rotate_left
             ·
              simp only [Act.put, List.setIfInBounds_toArray, List.set_cons_zero, List.set_cons_succ, i64_w, i32_w]
              rfl
             refine pure_ (i := 8) (N := some 51) (v := ?_) (a' := ?_) #[true, true, true, true, true, true, true, true, true, false, true, false, false, false, false] rfl rfl (any_of HT_.out (by kernel_rfl)) (fun _ _ _ h => h) (Or.inl ⟨by rfl, ?_⟩) ?_ ?_
             rotate_left
             ·
              intro w'
              go_simp
              with_reducible rfl
             rotate_left
             ·
              simp only [Act.put, List.setIfInBounds_toArray, List.set_cons_zero, List.set_cons_succ, i64_w, i32_w]
              rfl
             refine take_ (i := 11) (N := some 54) (v := ?_) (a' := ?_) #[true, true, true, true, true, true, true, true, true, false, true, true, false, false, false] rfl rfl (take_ofW HT_.out HW_.out (by kernel_rfl)) (fun _ _ _ h => h) (Or.inl ⟨by rfl, ?_⟩) hHeld ?_ ?_
             rotate_left
             ·
              rintro w' ⟨s0, s1, s2, s3, s4, s5⟩
              go_simp
              with_reducible rfl
             rotate_left
             ·
              simp only [Act.put, List.setIfInBounds_toArray, List.set_cons_zero, List.set_cons_succ, i64_w, i32_w]
              rfl
             refine pure_ (i := 12) (N := some 55) (v := ?_) (a' := ?_) #[true, true, true, true, true, true, true, true, true, false, true, true, true, false, false] rfl rfl (any_of HT_.out (by kernel_rfl)) (fun _ _ _ h => h) (Or.inl ⟨by rfl, ?_⟩) ?_ ?_
             rotate_left
             ·
              intro w'
              go_simp
              with_reducible rfl
             rotate_left
             ·
              simp only [Act.put, List.setIfInBounds_toArray, List.set_cons_zero, List.set_cons_succ, i64_w, i32_w]
              rfl
             refine one_ (i := 9) (N := some 52) #[true, true, true, true, true, true, true, true, true, true, true, true, true, false, false] rfl rfl (one_of HT_.out (by kernel_rfl)) (by decide) (fun K hK => ?_)
             refine Kd.R_lit_step (Kd.int .i64) _ 3 ?hg (N := 52) ?hd (xs := ([wrap64 ((rd t172 0) + (rd t178 0))] : List Int)) (inner := [.int .i64 (wrap64 ((rd t172 0) + (rd t178 0)))]) (ok := fun _ => True) (okp := fun _ => True) ?hr ?hp (fun _ hk => hk) trivial (Below.refl _ _) (Nat.le_refl _) (by simp) ?_; (case hd => rfl); (case hg => rfl); (case hr => first | (go_simp; done) | (go_simp; rfl)); (case hp => exact (Reps.one (show Kd.M (Kd.int .i64) _ _ _ (wrap64 ((rd t172 0) + (rd t178 0))) [.int .i64 (wrap64 ((rd t172 0) + (rd t178 0)))] from rfl) (Reps.none _ _)))
             intro v200 w82 ho83 hb hg_ hnew_
             have HS4_ := (hb.cell (World.block_lt_of_cell? _ _ (hHeld.2.2.2.2.1))).trans (hHeld.2.2.2.2.1)
             have HS5_ := (hb.cell (World.block_lt_of_cell? _ _ (hHeld.2.2.2.2.2))).trans (hHeld.2.2.2.2.2)
             clear hg_ hnew_
             (first | rw [← Ny199.out] at ho83 | (simp only [Int.reduceToNat] at ho83; rw [← Ny199.out] at ho83))
             replace HO_167000 := Aside0.mk (Kd.V_elder' (VU HO_167000.out) (Kd.R_base ho83) hb)
             replace HO_167001 := Aside0.mk (Kd.V_elder' (VU HO_167001.out) (Kd.R_base ho83) hb)
             replace HO_168000 := Aside0.mk (Kd.V_elder' (VU HO_168000.out) (Kd.R_base ho83) hb)
             replace HO_168001 := Aside0.mk (Kd.V_elder' (VU HO_168001.out) (Kd.R_base ho83) hb)
             replace HO174 := Aside0.mk (Kd.V_elder' (VU HO174.out) (Kd.R_base ho83) hb)
             replace HO177 := Aside0.mk (Kd.V_elder' (VU HO177.out) (Kd.R_base ho83) hb)
             replace HO180 := Aside0.mk (Kd.V_elder' (VU HO180.out) (Kd.R_base ho83) hb)
             replace HO183 := Aside0.mk (Kd.V_elder' (VU HO183.out) (Kd.R_base ho83) hb)
             replace HO190 := Aside0.mk (Kd.V_elder' (VU HO190.out) (Kd.R_base ho83) hb)
             replace HO195 := Aside0.mk (Kd.V_elder' (VU HO195.out) (Kd.R_base ho83) hb)
             replace HO206 := Aside0.mk (Kd.V_elder' (VU HO206.out) (Kd.R_base ho83) hb)
             have HO201 := Aside0.mk (Kd.R_lower (Kd.R_newM (M := fun k_ => (w.heap.size ≤ k_)) ho83 (below_size (bS6 HB.out GE166.out GE167.out GE168.out GE169.out GE184.out GE185.out)) (fun k_ h_ => h_)) (below_size (bS6 HB.out GE166.out GE167.out GE168.out GE169.out GE184.out GE185.out)))
             replace BK166 := Aside0.mk (kB BK166.out hb)
             replace BK167 := Aside0.mk (kB BK167.out hb)
             replace BK168 := Aside0.mk (kB BK168.out hb)
             replace BK169 := Aside0.mk (kB BK169.out hb)
             replace BK184 := Aside0.mk (kB BK184.out hb)
             replace BK185 := Aside0.mk (kB BK185.out hb)
             replace HB := Aside0.mk (below_step (bS6 HB.out GE166.out GE167.out GE168.out GE169.out GE184.out GE185.out) hb)
             clear hb ho83
             refine hK.out _ _ ⟨(blk_cell BK184.out 0).trans rfl, (blk_cell BK184.out 1).trans rfl, (blk_cell BK185.out 0).trans rfl, (blk_cell BK185.out 1).trans rfl, HS4_, HS5_⟩ (fun hHeld => ?_)
             clear hK K
             refine norm_ (a' := ?_) ?_ ?_
             rotate_left
             ·
              show Act.put _ (some 52) _ = _
              simp only [Act.put, List.setIfInBounds_toArray, List.set_cons_zero, List.set_cons_succ, i64_w, i32_w]
              rfl
             refine last_ (i := 13) (N := some 56) #[true, true, true, true, true, true, true, true, true, true, true, true, true, true, false] rfl rfl (one_of HT_.out (by kernel_rfl)) (by decide) (fun K hK => ?_)
             refine Kd.R_append_rows_step (Kd.int .i64) (w0 := w) w.heap.size (by rfl) (.tmp 52) (.tmp 55) 22 3 (.int .i64 0) 8 rfl Try.underlying22 info3 rfl (by decide) (by omega) v200 y199 y202 _ _ _ (fun k_ => (w.heap.size ≤ k_)) (fun _ => False) rfl rfl ?aO ?aR (fun _ _ h => h) (fun _ h => h.elim) ?aF ?aB ?aS ?aL ?_
             (case aR => exact cU (Kd.V_reads' HO206.out).2.2)
             (case aB => exact (bS6 HB.out GE166.out GE167.out GE168.out GE169.out GE184.out GE185.out))
             (case aF => exact (fun k_ hk => (Nat.le_trans (below_size (bS6 HB.out GE166.out GE167.out GE168.out GE169.out GE184.out GE185.out)) hk)))
             (case aO => exact (by refine RU ?_; exact Kd.R_mono HO201.out (fun _ hk => hk.1)))
             (case aS => exact (below_size (bS6 HB.out GE166.out GE167.out GE168.out GE169.out GE184.out GE185.out)))
             (case aL => have := LMc47.out; omega)
             intro v208 w84 ho hb hg hat
             rw [← Ny207.out] at ho
             have n0_ := Aside0.mk (Kd.V_afterv (ok := (fun k_ => ((P0_0_ k_ ∨ P0_1_ k_ ∨ P1_0_ k_ ∨ P1_1_ k_) ∨ w.heap.size ≤ k_) ∧ k_ ≠ gb166 ∧ k_ ≠ gb167 ∧ k_ ≠ gb168 ∧ k_ ≠ gb169 ∧ k_ ≠ gb184 ∧ k_ ≠ gb185)) (VU HO_167000.out) hg hat)
             have n1_ := Aside0.mk (Kd.V_afterv (ok := (fun k_ => ((P0_0_ k_ ∨ P0_1_ k_ ∨ P1_0_ k_ ∨ P1_1_ k_) ∨ w.heap.size ≤ k_) ∧ k_ ≠ gb166 ∧ k_ ≠ gb167 ∧ k_ ≠ gb168 ∧ k_ ≠ gb169 ∧ k_ ≠ gb184 ∧ k_ ≠ gb185)) (VU HO_167001.out) hg hat)
             have n2_ := Aside0.mk (Kd.V_afterv (ok := (fun k_ => ((P0_0_ k_ ∨ P0_1_ k_ ∨ P1_0_ k_ ∨ P1_1_ k_) ∨ w.heap.size ≤ k_) ∧ k_ ≠ gb166 ∧ k_ ≠ gb167 ∧ k_ ≠ gb168 ∧ k_ ≠ gb169 ∧ k_ ≠ gb184 ∧ k_ ≠ gb185)) (VU HO_168000.out) hg hat)
             have n3_ := Aside0.mk (Kd.V_afterv (ok := (fun k_ => ((P0_0_ k_ ∨ P0_1_ k_ ∨ P1_0_ k_ ∨ P1_1_ k_) ∨ w.heap.size ≤ k_) ∧ k_ ≠ gb166 ∧ k_ ≠ gb167 ∧ k_ ≠ gb168 ∧ k_ ≠ gb169 ∧ k_ ≠ gb184 ∧ k_ ≠ gb185)) (VU HO_168001.out) hg hat)
             have n4_ := Aside0.mk (blk_grown (g := gb166) (o := .cells #[.slice A0_0 l0_0.length c0_0, .slice A0_1 l0_1.length c0_1] 26 (0, 0)) (kU BK166.out) hg (Kd.R_ne HO201.out BK166.out (by decide)))
             have n5_ := Aside0.mk (blk_grown (g := gb167) (o := .cells #[.slice A1_0 l1_0.length c1_0, .slice A1_1 l1_1.length c1_1] 26 (0, 0)) (kU BK167.out) hg (Kd.R_ne HO201.out BK167.out (by decide)))
             have n6_ := Aside0.mk (blk_grown (g := gb168) (o := .cells #[.slice none 0 0, .slice none 0 0] 26 (0, 0)) (kU BK168.out) hg (Kd.R_ne HO201.out BK168.out (by decide)))
             have n7_ := Aside0.mk (blk_grown (g := gb169) (o := .cells #[.slice none 0 0, .slice none 0 0] 26 (0, 0)) (kU BK169.out) hg (Kd.R_ne HO201.out BK169.out (by decide)))
             have n8_ := Aside0.mk (Kd.V_afterv (ok := (fun k_ => ((P0_0_ k_ ∨ P0_1_ k_ ∨ P1_0_ k_ ∨ P1_1_ k_) ∨ w.heap.size ≤ k_) ∧ k_ ≠ gb166 ∧ k_ ≠ gb167 ∧ k_ ≠ gb168 ∧ k_ ≠ gb169 ∧ k_ ≠ gb184 ∧ k_ ≠ gb185)) (VU HO174.out) hg hat)
             have n9_ := Aside0.mk (Kd.V_afterv (ok := (fun k_ => ((P0_0_ k_ ∨ P0_1_ k_ ∨ P1_0_ k_ ∨ P1_1_ k_) ∨ w.heap.size ≤ k_) ∧ k_ ≠ gb166 ∧ k_ ≠ gb167 ∧ k_ ≠ gb168 ∧ k_ ≠ gb169 ∧ k_ ≠ gb184 ∧ k_ ≠ gb185)) (VU HO177.out) hg hat)
             have n10_ := Aside0.mk (Kd.V_afterv (ok := (fun k_ => ((P0_0_ k_ ∨ P0_1_ k_ ∨ P1_0_ k_ ∨ P1_1_ k_) ∨ w.heap.size ≤ k_) ∧ k_ ≠ gb166 ∧ k_ ≠ gb167 ∧ k_ ≠ gb168 ∧ k_ ≠ gb169 ∧ k_ ≠ gb184 ∧ k_ ≠ gb185)) (VU HO180.out) hg hat)
             have n11_ := Aside0.mk (Kd.V_afterv (ok := (fun k_ => ((P0_0_ k_ ∨ P0_1_ k_ ∨ P1_0_ k_ ∨ P1_1_ k_) ∨ w.heap.size ≤ k_) ∧ k_ ≠ gb166 ∧ k_ ≠ gb167 ∧ k_ ≠ gb168 ∧ k_ ≠ gb169 ∧ k_ ≠ gb184 ∧ k_ ≠ gb185)) (VU HO183.out) hg hat)
             have n12_ := Aside0.mk (blk_grown (g := gb184) (o := .cells #[.slice (some ad197) t172.length co57, .slice Ao59 t175.length co59] 26 (0, 0)) (kU BK184.out) hg (Kd.R_ne HO201.out BK184.out (by decide)))
             have n13_ := Aside0.mk (blk_grown (g := gb185) (o := .cells #[.slice (some ad198) t178.length co61, .slice Ao63 t181.length co63] 26 (0, 0)) (kU BK185.out) hg (Kd.R_ne HO201.out BK185.out (by decide)))
             have n14_ := Aside0.mk (Kd.V_afterv (ok := (fun k_ => ((P0_0_ k_ ∨ P0_1_ k_ ∨ P1_0_ k_ ∨ P1_1_ k_) ∨ w.heap.size ≤ k_) ∧ k_ ≠ gb166 ∧ k_ ≠ gb167 ∧ k_ ≠ gb168 ∧ k_ ≠ gb169 ∧ k_ ≠ gb184 ∧ k_ ≠ gb185)) (VU HO190.out) hg hat)
             have n15_ := Aside0.mk (Kd.V_afterv (ok := (fun k_ => ((P0_0_ k_ ∨ P0_1_ k_ ∨ P1_0_ k_ ∨ P1_1_ k_) ∨ w.heap.size ≤ k_) ∧ k_ ≠ gb166 ∧ k_ ≠ gb167 ∧ k_ ≠ gb168 ∧ k_ ≠ gb169 ∧ k_ ≠ gb184 ∧ k_ ≠ gb185)) (VU HO195.out) hg hat)
             have n16_ := Aside0.mk (Kd.V_afterv (ok := (fun k_ => ((P0_0_ k_ ∨ P0_1_ k_ ∨ P1_0_ k_ ∨ P1_1_ k_) ∨ w.heap.size ≤ k_) ∧ k_ ≠ gb166 ∧ k_ ≠ gb167 ∧ k_ ≠ gb168 ∧ k_ ≠ gb169 ∧ k_ ≠ gb184 ∧ k_ ≠ gb185)) (VU HO206.out) hg hat)
             have n17_ := Aside0.mk (hb)
             have n18_ := Aside0.mk (ho)
             clear HO_167000 HO_167001 HO_168000 HO_168001 BK166 BK167 BK168 BK169 HO174 HO177 HO180 HO183 BK184 BK185 HO190 HO195 HO206 HB HO201
             have HO_167000 := n0_
             have HO_167001 := n1_
             have HO_168000 := n2_
             have HO_168001 := n3_
             have BK166 := n4_
             have BK167 := n5_
             have BK168 := n6_
             have BK169 := n7_
             have HO174 := n8_
             have HO177 := n9_
             have HO180 := n10_
             have HO183 := n11_
             have BK184 := n12_
             have BK185 := n13_
             have HO190 := n14_
             have HO195 := n15_
             have HO206 := n16_
             have HB := n17_
             have HO209 := n18_
             clear n0_ n1_ n2_ n3_ n4_ n5_ n6_ n7_ n8_ n9_ n10_ n11_ n12_ n13_ n14_ n15_ n16_ n17_ n18_
             clear ho hb hg hat
             refine hK.out _ _ ?_
             clear hK K
             refine norm_ (a' := ?_) ?_ ?_
             rotate_left
             ·
              show Act.put _ (some 56) _ = _
              simp only [Act.put, List.setIfInBounds_toArray, List.set_cons_zero, List.set_cons_succ, i64_w, i32_w]
              rfl
             refine pure_ (i := 14) (N := some 9) (v := ?_) (a' := ?_) #[true, true, true, true, true, true, true, true, true, true, true, true, true, true, true] rfl rfl (any_of HT_.out (by kernel_rfl)) (fun _ _ _ h => h) (Or.inl ⟨by rfl, ?_⟩) ?_ ?_
             rotate_left
             ·
              intro w'
              go_simp
              with_reducible rfl
             rotate_left
             ·
              simp only [Act.put, List.setIfInBounds_toArray, List.set_cons_zero, List.set_cons_succ, i64_w, i32_w]
              rfl
             refine done_ (done_of HT_.out (by kernel_rfl)) ?_
             try go_wp2
             replace HO_167000 := Aside0.mk (Kd.V_drew HO_167000.out)
             replace HO_167001 := Aside0.mk (Kd.V_drew HO_167001.out)
             replace HO_168000 := Aside0.mk (Kd.V_drew HO_168000.out)
             replace HO_168001 := Aside0.mk (Kd.V_drew HO_168001.out)
             replace HO174 := Aside0.mk (Kd.V_drew HO174.out)
             replace HO177 := Aside0.mk (Kd.V_drew HO177.out)
             replace HO180 := Aside0.mk (Kd.V_drew HO180.out)
             replace HO183 := Aside0.mk (Kd.V_drew HO183.out)
             replace HO190 := Aside0.mk (Kd.V_drew HO190.out)
             replace HO195 := Aside0.mk (Kd.V_drew HO195.out)
             replace HO206 := Aside0.mk (Kd.V_drew HO206.out)
             replace HO209 := Aside0.mk (Kd.R_drew HO209.out)
             replace BK166 := Aside0.mk (blk_drew BK166.out)
             replace BK167 := Aside0.mk (blk_drew BK167.out)
             replace BK168 := Aside0.mk (blk_drew BK168.out)
             replace BK169 := Aside0.mk (blk_drew BK169.out)
             replace BK184 := Aside0.mk (blk_drew BK184.out)
             replace BK185 := Aside0.mk (blk_drew BK185.out)
             replace HB := Aside0.mk (below_drew1 HB.out)
             refine start_ (n := 14) (S := fun w' => w'.cell? ⟨gb184, 0, none⟩ = some (.slice (some ad197) t172.length co57) ∧ w'.cell? ⟨gb184, 1, none⟩ = some (.slice Ao59 t175.length co59) ∧ w'.cell? ⟨gb185, 0, none⟩ = some (.slice (some ad198) t178.length co61) ∧ w'.cell? ⟨gb185, 1, none⟩ = some (.slice Ao63 t181.length co63)) (ds := []) #[false, false, false, false, false, false, false, false, false, false, false, false, false, false] (by kernel_rfl) rfl rfl ⟨(blk_cell BK184.out 0).trans rfl, (blk_cell BK184.out 1).trans rfl, (blk_cell BK185.out 0).trans rfl, (blk_cell BK185.out 1).trans rfl⟩ (fun hHeld => ?_); refine with_tabW spec_Join.tab10 spec_Join.bits10 (fun HT_ HW_ => ?_)
             generalize w84.drew = w85 at HO_167000 HO_167001 HO_168000 HO_168001 HO174 HO177 HO180 HO183 HO190 HO195 HO206 HO209 BK166 BK167 BK168 BK169 BK184 BK185 HB hHeld ⊢
             refine pure_ (i := 0) (N := some 57) (v := ?_) (a' := ?_) #[true, false, false, false, false, false, false, false, false, false, false, false, false, false] rfl rfl (any_of HT_.out (by kernel_rfl)) (fun _ _ _ h => h) (Or.inl ⟨by rfl, ?_⟩) ?_ ?_
             rotate_left
             ·
              intro w'
              go_simp
              with_reducible rfl
             rotate_left
             ·
              simp only [Act.put, List.setIfInBounds_toArray, List.set_cons_zero, List.set_cons_succ, i64_w, i32_w]
              rfl
             refine pure_ (i := 2) (N := some 59) (v := ?_) (a' := ?_) #[true, false, true, false, false, false, false, false, false, false, false, false, false, false] rfl rfl (any_of HT_.out (by kernel_rfl)) (fun _ _ _ h => h) (Or.inl ⟨by rfl, ?_⟩) ?_ ?_
             rotate_left
             ·
              intro w'
              go_simp
              with_reducible rfl
             rotate_left
             ·
              simp only [Act.put, List.setIfInBounds_toArray, List.set_cons_zero, List.set_cons_succ, i64_w, i32_w]
              rfl
             refine pure_ (i := 5) (N := some 62) (v := ?_) (a' := ?_) #[true, false, true, false, false, true, false, false, false, false, false, false, false, false] rfl rfl (any_of HT_.out (by kernel_rfl)) (fun _ _ _ h => h) (Or.inl ⟨by rfl, ?_⟩) ?_ ?_
             rotate_left
             ·
              intro w'
              go_simp
              with_reducible rfl
             rotate_left
             ·
              simp only [Act.put, List.setIfInBounds_toArray, List.set_cons_zero, List.set_cons_succ, i64_w, i32_w]
              rfl
             refine take_ (i := 3) (N := some 60) (v := ?_) (a' := ?_) #[true, false, true, true, false, true, false, false, false, false, false, false, false, false] rfl rfl (take_ofW HT_.out HW_.out (by kernel_rfl)) (fun _ _ _ h => h) (Or.inl ⟨by rfl, ?_⟩) hHeld ?_ ?_
             rotate_left
             ·
              rintro w' ⟨s0, s1, s2, s3⟩
              go_simp
              with_reducible rfl
             rotate_left
             ·
              simp only [Act.put, List.setIfInBounds_toArray, List.set_cons_zero, List.set_cons_succ, i64_w, i32_w]
              rfl
             refine take_ (i := 6) (N := some 63) (v := ?_) (a' := ?_) #[true, false, true, true, false, true, true, false, false, false, false, false, false, false] rfl rfl (take_ofW HT_.out HW_.out (by kernel_rfl)) (fun _ _ _ h => h) (Or.inl ⟨by rfl, ?_⟩) hHeld ?_ ?_
             rotate_left
             ·
              rintro w' ⟨s0, s1, s2, s3⟩
              go_simp
              with_reducible rfl
             rotate_left
             ·
              simp only [Act.put, List.setIfInBounds_toArray, List.set_cons_zero, List.set_cons_succ, i64_w, i32_w]
              rfl
             refine one_ (i := 1) (N := some 58) #[true, true, true, true, false, true, true, false, false, false, false, false, false, false] rfl rfl (one_of HT_.out (by kernel_rfl)) (by decide) (fun K hK => ?_)
             refine Kd.R_lit_step (Kd.int .i64) _ 3 ?hg (N := 58) ?hd (xs := ([] : List Int)) (inner := []) (ok := fun _ => True) (okp := fun _ => True) ?hr ?hp (fun _ hk => hk) trivial (Below.refl _ _) (Nat.le_refl _) (by simp) ?_; (case hd => rfl); (case hg => rfl); (case hr => first | (go_simp; done) | (go_simp; rfl)); (case hp => exact (Reps.none _ _))
             intro v211 w86 ho87 hb hg_ hnew_
             clear hg_ hnew_
             (first | rw [← Ny210.out] at ho87 | (simp only [Int.reduceToNat] at ho87; rw [← Ny210.out] at ho87))
             replace HO_167000 := Aside0.mk (Kd.V_elder' (VU HO_167000.out) (Kd.R_base ho87) hb)
             replace HO_167001 := Aside0.mk (Kd.V_elder' (VU HO_167001.out) (Kd.R_base ho87) hb)
             replace HO_168000 := Aside0.mk (Kd.V_elder' (VU HO_168000.out) (Kd.R_base ho87) hb)
             replace HO_168001 := Aside0.mk (Kd.V_elder' (VU HO_168001.out) (Kd.R_base ho87) hb)
             replace HO174 := Aside0.mk (Kd.V_elder' (VU HO174.out) (Kd.R_base ho87) hb)
             replace HO177 := Aside0.mk (Kd.V_elder' (VU HO177.out) (Kd.R_base ho87) hb)
             replace HO180 := Aside0.mk (Kd.V_elder' (VU HO180.out) (Kd.R_base ho87) hb)
             replace HO183 := Aside0.mk (Kd.V_elder' (VU HO183.out) (Kd.R_base ho87) hb)
             replace HO190 := Aside0.mk (Kd.V_elder' (VU HO190.out) (Kd.R_base ho87) hb)
             replace HO195 := Aside0.mk (Kd.V_elder' (VU HO195.out) (Kd.R_base ho87) hb)
             replace HO206 := Aside0.mk (Kd.V_elder' (VU HO206.out) (Kd.R_base ho87) hb)
             have HO212 := Aside0.mk (Kd.R_lower (Kd.R_new' (Kd.R_newM (M := fun k_ => (w.heap.size ≤ k_)) ho87 (below_size (bS6 HB.out GE166.out GE167.out GE168.out GE169.out GE184.out GE185.out)) (fun k_ h_ => h_)) (Kd.R_lt (RU HO209.out))) (below_size (bS6 HB.out GE166.out GE167.out GE168.out GE169.out GE184.out GE185.out)))
             replace HO209 := Aside0.mk (Kd.R_elder' (RU HO209.out) (Kd.R_base ho87) hb)
             replace BK166 := Aside0.mk (kB BK166.out hb)
             replace BK167 := Aside0.mk (kB BK167.out hb)
             replace BK168 := Aside0.mk (kB BK168.out hb)
             replace BK169 := Aside0.mk (kB BK169.out hb)
             replace BK184 := Aside0.mk (kB BK184.out hb)
             replace BK185 := Aside0.mk (kB BK185.out hb)
             replace HB := Aside0.mk (below_step (bS6 HB.out GE166.out GE167.out GE168.out GE169.out GE184.out GE185.out) hb)
             clear hb ho87
             refine hK.out _ _ ⟨(blk_cell BK184.out 0).trans rfl, (blk_cell BK184.out 1).trans rfl, (blk_cell BK185.out 0).trans rfl, (blk_cell BK185.out 1).trans rfl⟩ (fun hHeld => ?_)
             clear hK K
             refine norm_ (a' := ?_) ?_ ?_
             rotate_left
             ·
              show Act.put _ (some 58) _ = _
              simp only [Act.put, List.setIfInBounds_toArray, List.set_cons_zero, List.set_cons_succ, i64_w, i32_w]
              rfl
             refine one_ (i := 4) (N := some 61) #[true, true, true, true, true, true, true, false, false, false, false, false, false, false] rfl rfl (one_of HT_.out (by kernel_rfl)) (by decide) (fun K hK => ?_)
             refine Kd.R_append_rows_step (Kd.int .i64) (w0 := w) w.heap.size (by rfl) (.tmp 58) (.tmp 60) 22 3 (.int .i64 0) 8 rfl Try.underlying22 info3 rfl (by decide) (by omega) v211 y210 t175 _ _ _ (fun k_ => (w.heap.size ≤ k_) ∧ some k_ ≠ (v208 : Value).ownBlock) (fun _ => False) rfl rfl ?aO ?aR (fun _ _ h => h) (fun _ h => h.elim) ?aF ?aB ?aS ?aL ?_
             (case aR => exact cU (Kd.V_reads' HO177.out).2.2)
             (case aB => exact (bS6 HB.out GE166.out GE167.out GE168.out GE169.out GE184.out GE185.out))
             (case aF => exact (fun k_ hk => ⟨(Nat.le_trans (below_size (bS6 HB.out GE166.out GE167.out GE168.out GE169.out GE184.out GE185.out)) hk), Kd.fresh' (Kd.R_lt (RU HO209.out)) k_ hk⟩))
             (case aO => exact (by refine RU ?_; exact Kd.R_mono HO212.out (fun _ hk => ⟨hk.1.1, hk.2⟩)))
             (case aS => exact (below_size (bS6 HB.out GE166.out GE167.out GE168.out GE169.out GE184.out GE185.out)))
             (case aL => have := LMc48.out; omega)
             intro v214 w88 ho hb hg hat
             rw [← Ny213.out] at ho
             have n0_ := Aside0.mk (Kd.V_afterv (ok := (fun k_ => ((P0_0_ k_ ∨ P0_1_ k_ ∨ P1_0_ k_ ∨ P1_1_ k_) ∨ w.heap.size ≤ k_) ∧ some k_ ≠ (v208 : Value).ownBlock ∧ k_ ≠ gb166 ∧ k_ ≠ gb167 ∧ k_ ≠ gb168 ∧ k_ ≠ gb169 ∧ k_ ≠ gb184 ∧ k_ ≠ gb185)) (by refine VU ?_; exact Kd.V_mono HO_167000.out (fun _ hk => ⟨⟨hk.1.1.1, ⟨hk.1.2, ⟨hk.1.1.2.1, ⟨hk.1.1.2.2.1, ⟨hk.1.1.2.2.2.1, ⟨hk.1.1.2.2.2.2.1, ⟨hk.1.1.2.2.2.2.2.1, hk.1.1.2.2.2.2.2.2⟩⟩⟩⟩⟩⟩⟩, hk.2⟩)) hg hat)
             have n1_ := Aside0.mk (Kd.V_afterv (ok := (fun k_ => ((P0_0_ k_ ∨ P0_1_ k_ ∨ P1_0_ k_ ∨ P1_1_ k_) ∨ w.heap.size ≤ k_) ∧ some k_ ≠ (v208 : Value).ownBlock ∧ k_ ≠ gb166 ∧ k_ ≠ gb167 ∧ k_ ≠ gb168 ∧ k_ ≠ gb169 ∧ k_ ≠ gb184 ∧ k_ ≠ gb185)) (by refine VU ?_; exact Kd.V_mono HO_167001.out (fun _ hk => ⟨⟨hk.1.1.1, ⟨hk.1.2, ⟨hk.1.1.2.1, ⟨hk.1.1.2.2.1, ⟨hk.1.1.2.2.2.1, ⟨hk.1.1.2.2.2.2.1, ⟨hk.1.1.2.2.2.2.2.1, hk.1.1.2.2.2.2.2.2⟩⟩⟩⟩⟩⟩⟩, hk.2⟩)) hg hat)
             have n2_ := Aside0.mk (Kd.V_afterv (ok := (fun k_ => ((P0_0_ k_ ∨ P0_1_ k_ ∨ P1_0_ k_ ∨ P1_1_ k_) ∨ w.heap.size ≤ k_) ∧ some k_ ≠ (v208 : Value).ownBlock ∧ k_ ≠ gb166 ∧ k_ ≠ gb167 ∧ k_ ≠ gb168 ∧ k_ ≠ gb169 ∧ k_ ≠ gb184 ∧ k_ ≠ gb185)) (by refine VU ?_; exact Kd.V_mono HO_168000.out (fun _ hk => ⟨⟨hk.1.1.1, ⟨hk.1.2, ⟨hk.1.1.2.1, ⟨hk.1.1.2.2.1, ⟨hk.1.1.2.2.2.1, ⟨hk.1.1.2.2.2.2.1, ⟨hk.1.1.2.2.2.2.2.1, hk.1.1.2.2.2.2.2.2⟩⟩⟩⟩⟩⟩⟩, hk.2⟩)) hg hat)
             have n3_ := Aside0.mk (Kd.V_afterv (ok := (fun k_ => ((P0_0_ k_ ∨ P0_1_ k_ ∨ P1_0_ k_ ∨ P1_1_ k_) ∨ w.heap.size ≤ k_) ∧ some k_ ≠ (v208 : Value).ownBlock ∧ k_ ≠ gb166 ∧ k_ ≠ gb167 ∧ k_ ≠ gb168 ∧ k_ ≠ gb169 ∧ k_ ≠ gb184 ∧ k_ ≠ gb185)) (by refine VU ?_; exact Kd.V_mono HO_168001.out (fun _ hk => ⟨⟨hk.1.1.1, ⟨hk.1.2, ⟨hk.1.1.2.1, ⟨hk.1.1.2.2.1, ⟨hk.1.1.2.2.2.1, ⟨hk.1.1.2.2.2.2.1, ⟨hk.1.1.2.2.2.2.2.1, hk.1.1.2.2.2.2.2.2⟩⟩⟩⟩⟩⟩⟩, hk.2⟩)) hg hat)
             have n4_ := Aside0.mk (blk_grown (g := gb166) (o := .cells #[.slice A0_0 l0_0.length c0_0, .slice A0_1 l0_1.length c0_1] 26 (0, 0)) (kU BK166.out) hg (Kd.R_ne HO212.out BK166.out (by decide)))
             have n5_ := Aside0.mk (blk_grown (g := gb167) (o := .cells #[.slice A1_0 l1_0.length c1_0, .slice A1_1 l1_1.length c1_1] 26 (0, 0)) (kU BK167.out) hg (Kd.R_ne HO212.out BK167.out (by decide)))
             have n6_ := Aside0.mk (blk_grown (g := gb168) (o := .cells #[.slice none 0 0, .slice none 0 0] 26 (0, 0)) (kU BK168.out) hg (Kd.R_ne HO212.out BK168.out (by decide)))
             have n7_ := Aside0.mk (blk_grown (g := gb169) (o := .cells #[.slice none 0 0, .slice none 0 0] 26 (0, 0)) (kU BK169.out) hg (Kd.R_ne HO212.out BK169.out (by decide)))
             have n8_ := Aside0.mk (Kd.V_afterv (ok := (fun k_ => ((P0_0_ k_ ∨ P0_1_ k_ ∨ P1_0_ k_ ∨ P1_1_ k_) ∨ w.heap.size ≤ k_) ∧ some k_ ≠ (v208 : Value).ownBlock ∧ k_ ≠ gb166 ∧ k_ ≠ gb167 ∧ k_ ≠ gb168 ∧ k_ ≠ gb169 ∧ k_ ≠ gb184 ∧ k_ ≠ gb185)) (by refine VU ?_; exact Kd.V_mono HO174.out (fun _ hk => ⟨⟨hk.1.1.1, ⟨hk.1.2, ⟨hk.1.1.2.1, ⟨hk.1.1.2.2.1, ⟨hk.1.1.2.2.2.1, ⟨hk.1.1.2.2.2.2.1, ⟨hk.1.1.2.2.2.2.2.1, hk.1.1.2.2.2.2.2.2⟩⟩⟩⟩⟩⟩⟩, hk.2⟩)) hg hat)
             have n9_ := Aside0.mk (Kd.V_afterv (ok := (fun k_ => ((P0_0_ k_ ∨ P0_1_ k_ ∨ P1_0_ k_ ∨ P1_1_ k_) ∨ w.heap.size ≤ k_) ∧ some k_ ≠ (v208 : Value).ownBlock ∧ k_ ≠ gb166 ∧ k_ ≠ gb167 ∧ k_ ≠ gb168 ∧ k_ ≠ gb169 ∧ k_ ≠ gb184 ∧ k_ ≠ gb185)) (by refine VU ?_; exact Kd.V_mono HO177.out (fun _ hk => ⟨⟨hk.1.1.1, ⟨hk.1.2, ⟨hk.1.1.2.1, ⟨hk.1.1.2.2.1, ⟨hk.1.1.2.2.2.1, ⟨hk.1.1.2.2.2.2.1, ⟨hk.1.1.2.2.2.2.2.1, hk.1.1.2.2.2.2.2.2⟩⟩⟩⟩⟩⟩⟩, hk.2⟩)) hg hat)
             have n10_ := Aside0.mk (Kd.V_afterv (ok := (fun k_ => ((P0_0_ k_ ∨ P0_1_ k_ ∨ P1_0_ k_ ∨ P1_1_ k_) ∨ w.heap.size ≤ k_) ∧ some k_ ≠ (v208 : Value).ownBlock ∧ k_ ≠ gb166 ∧ k_ ≠ gb167 ∧ k_ ≠ gb168 ∧ k_ ≠ gb169 ∧ k_ ≠ gb184 ∧ k_ ≠ gb185)) (by refine VU ?_; exact Kd.V_mono HO180.out (fun _ hk => ⟨⟨hk.1.1.1, ⟨hk.1.2, ⟨hk.1.1.2.1, ⟨hk.1.1.2.2.1, ⟨hk.1.1.2.2.2.1, ⟨hk.1.1.2.2.2.2.1, ⟨hk.1.1.2.2.2.2.2.1, hk.1.1.2.2.2.2.2.2⟩⟩⟩⟩⟩⟩⟩, hk.2⟩)) hg hat)
             have n11_ := Aside0.mk (Kd.V_afterv (ok := (fun k_ => ((P0_0_ k_ ∨ P0_1_ k_ ∨ P1_0_ k_ ∨ P1_1_ k_) ∨ w.heap.size ≤ k_) ∧ some k_ ≠ (v208 : Value).ownBlock ∧ k_ ≠ gb166 ∧ k_ ≠ gb167 ∧ k_ ≠ gb168 ∧ k_ ≠ gb169 ∧ k_ ≠ gb184 ∧ k_ ≠ gb185)) (by refine VU ?_; exact Kd.V_mono HO183.out (fun _ hk => ⟨⟨hk.1.1.1, ⟨hk.1.2, ⟨hk.1.1.2.1, ⟨hk.1.1.2.2.1, ⟨hk.1.1.2.2.2.1, ⟨hk.1.1.2.2.2.2.1, ⟨hk.1.1.2.2.2.2.2.1, hk.1.1.2.2.2.2.2.2⟩⟩⟩⟩⟩⟩⟩, hk.2⟩)) hg hat)
             have n12_ := Aside0.mk (blk_grown (g := gb184) (o := .cells #[.slice (some ad197) t172.length co57, .slice Ao59 t175.length co59] 26 (0, 0)) (kU BK184.out) hg (Kd.R_ne HO212.out BK184.out (by decide)))
             have n13_ := Aside0.mk (blk_grown (g := gb185) (o := .cells #[.slice (some ad198) t178.length co61, .slice Ao63 t181.length co63] 26 (0, 0)) (kU BK185.out) hg (Kd.R_ne HO212.out BK185.out (by decide)))
             have n14_ := Aside0.mk (Kd.V_afterv (ok := (fun k_ => ((P0_0_ k_ ∨ P0_1_ k_ ∨ P1_0_ k_ ∨ P1_1_ k_) ∨ w.heap.size ≤ k_) ∧ some k_ ≠ (v208 : Value).ownBlock ∧ k_ ≠ gb166 ∧ k_ ≠ gb167 ∧ k_ ≠ gb168 ∧ k_ ≠ gb169 ∧ k_ ≠ gb184 ∧ k_ ≠ gb185)) (by refine VU ?_; exact Kd.V_mono HO190.out (fun _ hk => ⟨⟨hk.1.1.1, ⟨hk.1.2, ⟨hk.1.1.2.1, ⟨hk.1.1.2.2.1, ⟨hk.1.1.2.2.2.1, ⟨hk.1.1.2.2.2.2.1, ⟨hk.1.1.2.2.2.2.2.1, hk.1.1.2.2.2.2.2.2⟩⟩⟩⟩⟩⟩⟩, hk.2⟩)) hg hat)
             have n15_ := Aside0.mk (Kd.V_afterv (ok := (fun k_ => ((P0_0_ k_ ∨ P0_1_ k_ ∨ P1_0_ k_ ∨ P1_1_ k_) ∨ w.heap.size ≤ k_) ∧ some k_ ≠ (v208 : Value).ownBlock ∧ k_ ≠ gb166 ∧ k_ ≠ gb167 ∧ k_ ≠ gb168 ∧ k_ ≠ gb169 ∧ k_ ≠ gb184 ∧ k_ ≠ gb185)) (by refine VU ?_; exact Kd.V_mono HO195.out (fun _ hk => ⟨⟨hk.1.1.1, ⟨hk.1.2, ⟨hk.1.1.2.1, ⟨hk.1.1.2.2.1, ⟨hk.1.1.2.2.2.1, ⟨hk.1.1.2.2.2.2.1, ⟨hk.1.1.2.2.2.2.2.1, hk.1.1.2.2.2.2.2.2⟩⟩⟩⟩⟩⟩⟩, hk.2⟩)) hg hat)
             have n16_ := Aside0.mk (Kd.V_afterv (ok := (fun k_ => ((P0_0_ k_ ∨ P0_1_ k_ ∨ P1_0_ k_ ∨ P1_1_ k_) ∨ w.heap.size ≤ k_) ∧ some k_ ≠ (v208 : Value).ownBlock ∧ k_ ≠ gb166 ∧ k_ ≠ gb167 ∧ k_ ≠ gb168 ∧ k_ ≠ gb169 ∧ k_ ≠ gb184 ∧ k_ ≠ gb185)) (by refine VU ?_; exact Kd.V_mono HO206.out (fun _ hk => ⟨⟨hk.1.1.1, ⟨hk.1.2, ⟨hk.1.1.2.1, ⟨hk.1.1.2.2.1, ⟨hk.1.1.2.2.2.1, ⟨hk.1.1.2.2.2.2.1, ⟨hk.1.1.2.2.2.2.2.1, hk.1.1.2.2.2.2.2.2⟩⟩⟩⟩⟩⟩⟩, hk.2⟩)) hg hat)
             have n17_ := Aside0.mk (Kd.R_after (ok := (fun k_ => (w.heap.size ≤ k_))) (RU HO209.out) hg hat)
             have n18_ := Aside0.mk (hb)
             have n19_ := Aside0.mk (ho)
             clear HO_167000 HO_167001 HO_168000 HO_168001 BK166 BK167 BK168 BK169 HO174 HO177 HO180 HO183 BK184 BK185 HO190 HO195 HO206 HO209 HB HO212
             have HO_167000 := n0_
             have HO_167001 := n1_
             have HO_168000 := n2_
             have HO_168001 := n3_
             have BK166 := n4_
             have BK167 := n5_
             have BK168 := n6_
             have BK169 := n7_
             have HO174 := n8_
             have HO177 := n9_
             have HO180 := n10_
             have HO183 := n11_
             have BK184 := n12_
             have BK185 := n13_
             have HO190 := n14_
             have HO195 := n15_
             have HO206 := n16_
             have HO209 := n17_
             have HB := n18_
             have HO215 := n19_
             clear n0_ n1_ n2_ n3_ n4_ n5_ n6_ n7_ n8_ n9_ n10_ n11_ n12_ n13_ n14_ n15_ n16_ n17_ n18_ n19_
             clear ho hb hg hat
             refine hK.out _ _ ⟨(blk_cell BK184.out 0).trans rfl, (blk_cell BK184.out 1).trans rfl, (blk_cell BK185.out 0).trans rfl, (blk_cell BK185.out 1).trans rfl⟩ (fun hHeld => ?_)
             clear hK K
             refine norm_ (a' := ?_) ?_ ?_
             rotate_left
             ·
              show Act.put _ (some 61) _ = _
              simp only [Act.put, List.setIfInBounds_toArray, List.set_cons_zero, List.set_cons_succ, i64_w, i32_w]
              rfl
             refine one_ (i := 7) (N := some 64) #[true, true, true, true, true, true, true, true, false, false, false, false, false, false] rfl rfl (one_of HT_.out (by kernel_rfl)) (by decide) (fun K hK => ?_)
             refine Kd.R_append_rows_step (Kd.int .i64) (w0 := w) w.heap.size (by rfl) (.tmp 61) (.tmp 63) 22 3 (.int .i64 0) 8 rfl Try.underlying22 info3 rfl (by decide) (by omega) v214 y213 t181 _ _ _ (fun k_ => (w.heap.size ≤ k_) ∧ some k_ ≠ (v208 : Value).ownBlock) (fun _ => False) rfl rfl ?aO ?aR (fun _ _ h => h) (fun _ h => h.elim) ?aF ?aB ?aS ?aL ?_
             (case aR => exact cU (Kd.V_reads' HO183.out).2.2)
             (case aB => exact (bS6 HB.out GE166.out GE167.out GE168.out GE169.out GE184.out GE185.out))
             (case aF => exact (fun k_ hk => ⟨(Nat.le_trans (below_size (bS6 HB.out GE166.out GE167.out GE168.out GE169.out GE184.out GE185.out)) hk), Kd.fresh' (Kd.R_lt (RU HO209.out)) k_ hk⟩))
             (case aO => exact (RU HO215.out))
             (case aS => exact (below_size (bS6 HB.out GE166.out GE167.out GE168.out GE169.out GE184.out GE185.out)))
             (case aL => have := LMc49.out; omega)
             intro v217 w89 ho hb hg hat
             rw [← Ny216.out] at ho
             have n0_ := Aside0.mk (Kd.V_afterv (ok := (fun k_ => ((P0_0_ k_ ∨ P0_1_ k_ ∨ P1_0_ k_ ∨ P1_1_ k_) ∨ w.heap.size ≤ k_) ∧ some k_ ≠ (v208 : Value).ownBlock ∧ k_ ≠ gb166 ∧ k_ ≠ gb167 ∧ k_ ≠ gb168 ∧ k_ ≠ gb169 ∧ k_ ≠ gb184 ∧ k_ ≠ gb185)) (VU HO_167000.out) hg hat)
             have n1_ := Aside0.mk (Kd.V_afterv (ok := (fun k_ => ((P0_0_ k_ ∨ P0_1_ k_ ∨ P1_0_ k_ ∨ P1_1_ k_) ∨ w.heap.size ≤ k_) ∧ some k_ ≠ (v208 : Value).ownBlock ∧ k_ ≠ gb166 ∧ k_ ≠ gb167 ∧ k_ ≠ gb168 ∧ k_ ≠ gb169 ∧ k_ ≠ gb184 ∧ k_ ≠ gb185)) (VU HO_167001.out) hg hat)
             have n2_ := Aside0.mk (Kd.V_afterv (ok := (fun k_ => ((P0_0_ k_ ∨ P0_1_ k_ ∨ P1_0_ k_ ∨ P1_1_ k_) ∨ w.heap.size ≤ k_) ∧ some k_ ≠ (v208 : Value).ownBlock ∧ k_ ≠ gb166 ∧ k_ ≠ gb167 ∧ k_ ≠ gb168 ∧ k_ ≠ gb169 ∧ k_ ≠ gb184 ∧ k_ ≠ gb185)) (VU HO_168000.out) hg hat)
             have n3_ := Aside0.mk (Kd.V_afterv (ok := (fun k_ => ((P0_0_ k_ ∨ P0_1_ k_ ∨ P1_0_ k_ ∨ P1_1_ k_) ∨ w.heap.size ≤ k_) ∧ some k_ ≠ (v208 : Value).ownBlock ∧ k_ ≠ gb166 ∧ k_ ≠ gb167 ∧ k_ ≠ gb168 ∧ k_ ≠ gb169 ∧ k_ ≠ gb184 ∧ k_ ≠ gb185)) (VU HO_168001.out) hg hat)
             have n4_ := Aside0.mk (blk_grown (g := gb166) (o := .cells #[.slice A0_0 l0_0.length c0_0, .slice A0_1 l0_1.length c0_1] 26 (0, 0)) (kU BK166.out) hg (Kd.R_ne HO215.out BK166.out (by decide)))
             have n5_ := Aside0.mk (blk_grown (g := gb167) (o := .cells #[.slice A1_0 l1_0.length c1_0, .slice A1_1 l1_1.length c1_1] 26 (0, 0)) (kU BK167.out) hg (Kd.R_ne HO215.out BK167.out (by decide)))
             have n6_ := Aside0.mk (blk_grown (g := gb168) (o := .cells #[.slice none 0 0, .slice none 0 0] 26 (0, 0)) (kU BK168.out) hg (Kd.R_ne HO215.out BK168.out (by decide)))
             have n7_ := Aside0.mk (blk_grown (g := gb169) (o := .cells #[.slice none 0 0, .slice none 0 0] 26 (0, 0)) (kU BK169.out) hg (Kd.R_ne HO215.out BK169.out (by decide)))
             have n8_ := Aside0.mk (Kd.V_afterv (ok := (fun k_ => ((P0_0_ k_ ∨ P0_1_ k_ ∨ P1_0_ k_ ∨ P1_1_ k_) ∨ w.heap.size ≤ k_) ∧ some k_ ≠ (v208 : Value).ownBlock ∧ k_ ≠ gb166 ∧ k_ ≠ gb167 ∧ k_ ≠ gb168 ∧ k_ ≠ gb169 ∧ k_ ≠ gb184 ∧ k_ ≠ gb185)) (VU HO174.out) hg hat)
             have n9_ := Aside0.mk (Kd.V_afterv (ok := (fun k_ => ((P0_0_ k_ ∨ P0_1_ k_ ∨ P1_0_ k_ ∨ P1_1_ k_) ∨ w.heap.size ≤ k_) ∧ some k_ ≠ (v208 : Value).ownBlock ∧ k_ ≠ gb166 ∧ k_ ≠ gb167 ∧ k_ ≠ gb168 ∧ k_ ≠ gb169 ∧ k_ ≠ gb184 ∧ k_ ≠ gb185)) (VU HO177.out) hg hat)
             have n10_ := Aside0.mk (Kd.V_afterv (ok := (fun k_ => ((P0_0_ k_ ∨ P0_1_ k_ ∨ P1_0_ k_ ∨ P1_1_ k_) ∨ w.heap.size ≤ k_) ∧ some k_ ≠ (v208 : Value).ownBlock ∧ k_ ≠ gb166 ∧ k_ ≠ gb167 ∧ k_ ≠ gb168 ∧ k_ ≠ gb169 ∧ k_ ≠ gb184 ∧ k_ ≠ gb185)) (VU HO180.out) hg hat)
             have n11_ := Aside0.mk (Kd.V_afterv (ok := (fun k_ => ((P0_0_ k_ ∨ P0_1_ k_ ∨ P1_0_ k_ ∨ P1_1_ k_) ∨ w.heap.size ≤ k_) ∧ some k_ ≠ (v208 : Value).ownBlock ∧ k_ ≠ gb166 ∧ k_ ≠ gb167 ∧ k_ ≠ gb168 ∧ k_ ≠ gb169 ∧ k_ ≠ gb184 ∧ k_ ≠ gb185)) (VU HO183.out) hg hat)
             have n12_ := Aside0.mk (blk_grown (g := gb184) (o := .cells #[.slice (some ad197) t172.length co57, .slice Ao59 t175.length co59] 26 (0, 0)) (kU BK184.out) hg (Kd.R_ne HO215.out BK184.out (by decide)))
             have n13_ := Aside0.mk (blk_grown (g := gb185) (o := .cells #[.slice (some ad198) t178.length co61, .slice Ao63 t181.length co63] 26 (0, 0)) (kU BK185.out) hg (Kd.R_ne HO215.out BK185.out (by decide)))
             have n14_ := Aside0.mk (Kd.V_afterv (ok := (fun k_ => ((P0_0_ k_ ∨ P0_1_ k_ ∨ P1_0_ k_ ∨ P1_1_ k_) ∨ w.heap.size ≤ k_) ∧ some k_ ≠ (v208 : Value).ownBlock ∧ k_ ≠ gb166 ∧ k_ ≠ gb167 ∧ k_ ≠ gb168 ∧ k_ ≠ gb169 ∧ k_ ≠ gb184 ∧ k_ ≠ gb185)) (VU HO190.out) hg hat)
             have n15_ := Aside0.mk (Kd.V_afterv (ok := (fun k_ => ((P0_0_ k_ ∨ P0_1_ k_ ∨ P1_0_ k_ ∨ P1_1_ k_) ∨ w.heap.size ≤ k_) ∧ some k_ ≠ (v208 : Value).ownBlock ∧ k_ ≠ gb166 ∧ k_ ≠ gb167 ∧ k_ ≠ gb168 ∧ k_ ≠ gb169 ∧ k_ ≠ gb184 ∧ k_ ≠ gb185)) (VU HO195.out) hg hat)
             have n16_ := Aside0.mk (Kd.V_afterv (ok := (fun k_ => ((P0_0_ k_ ∨ P0_1_ k_ ∨ P1_0_ k_ ∨ P1_1_ k_) ∨ w.heap.size ≤ k_) ∧ some k_ ≠ (v208 : Value).ownBlock ∧ k_ ≠ gb166 ∧ k_ ≠ gb167 ∧ k_ ≠ gb168 ∧ k_ ≠ gb169 ∧ k_ ≠ gb184 ∧ k_ ≠ gb185)) (VU HO206.out) hg hat)
             have n17_ := Aside0.mk (Kd.R_after (ok := (fun k_ => (w.heap.size ≤ k_))) (RU HO209.out) hg hat)
             have n18_ := Aside0.mk (hb)
             have n19_ := Aside0.mk (ho)
             clear HO_167000 HO_167001 HO_168000 HO_168001 BK166 BK167 BK168 BK169 HO174 HO177 HO180 HO183 BK184 BK185 HO190 HO195 HO206 HO209 HB HO215
             have HO_167000 := n0_
             have HO_167001 := n1_
             have HO_168000 := n2_
             have HO_168001 := n3_
             have BK166 := n4_
             have BK167 := n5_
             have BK168 := n6_
             have BK169 := n7_
             have HO174 := n8_
             have HO177 := n9_
             have HO180 := n10_
             have HO183 := n11_
             have BK184 := n12_
             have BK185 := n13_
             have HO190 := n14_
             have HO195 := n15_
             have HO206 := n16_
             have HO209 := n17_
             have HB := n18_
             have HO218 := n19_
             clear n0_ n1_ n2_ n3_ n4_ n5_ n6_ n7_ n8_ n9_ n10_ n11_ n12_ n13_ n14_ n15_ n16_ n17_ n18_ n19_
             clear ho hb hg hat
             obtain ⟨Ao90, co90, eo90⟩ := Kd.R_slice HO218.out
             (first | subst eo90 | (injection eo90 with f1_ f2_ f3_; have f4_ := f1_.symm; have f5_ := f3_.symm; clear f1_ f2_ f3_; subst f4_; subst f5_))
             obtain ⟨Ao91, co91, eo91⟩ := Kd.R_slice HO209.out
             (first | subst eo91 | (injection eo91 with f1_ f2_ f3_; have f4_ := f1_.symm; have f5_ := f3_.symm; clear f1_ f2_ f3_; subst f4_; subst f5_))
             refine hK.out _ _ ⟨(blk_cell BK184.out 0).trans rfl, (blk_cell BK184.out 1).trans rfl, (blk_cell BK185.out 0).trans rfl, (blk_cell BK185.out 1).trans rfl⟩ (fun hHeld => ?_)
             clear hK K
             refine norm_ (a' := ?_) ?_ ?_
             rotate_left
             ·
              show Act.put _ (some 64) _ = _
              simp only [Act.put, List.setIfInBounds_toArray, List.set_cons_zero, List.set_cons_succ, i64_w, i32_w]
              rfl
             refine pure_ (i := 8) (N := some 65) (v := ?_) (a' := ?_) #[true, true, true, true, true, true, true, true, true, false, false, false, false, false] rfl rfl (any_of HT_.out (by kernel_rfl)) (fun _ _ _ h => h) (Or.inl ⟨by rfl, ?_⟩) ?_ ?_
             rotate_left
             ·
              intro w'
              go_simp
              with_reducible rfl
             rotate_left
             ·
              simp only [Act.put, List.setIfInBounds_toArray, List.set_cons_zero, List.set_cons_succ, i64_w, i32_w]
              rfl
             refine one_ (i := 9) (N := some 66) #[true, true, true, true, true, true, true, true, true, true, false, false, false, false] rfl rfl (one_of HT_.out (by kernel_rfl)) (by decide) (fun K hK => ?_)
             refine goes_ Try.func102 (by kernel_rfl) rfl #[.agg #[.slice Ao91 y207.length co91, .slice Ao90 y216.length co90]] (by rfl) rfl rfl lU ?_
             with_reducible refine (spec_l5Right.calls kj2 (fun k_ => some k_ = (.slice Ao91 y207.length co91 : Value).ownBlock) _ _ y207 (fun k_ => some k_ = (.slice Ao90 y216.length co90 : Value).ownBlock) _ _ y216 t219 t222 t225 _ ?side1 ?side2 A50.out).mono ?_
             (case side1 => exact Kd.R_V (Kd.R_tight rfl (Kd.R_types (Kd.R_types (Kd.R_types (Kd.R_types (Kd.R_types (Kd.R_types (HO209.out) BK166.out (by decide)) BK167.out (by decide)) BK168.out (by decide)) BK169.out (by decide)) BK184.out (by decide)) BK185.out (by decide))))
             (case side2 => exact Kd.R_V (Kd.R_tight rfl (Kd.R_types (Kd.R_types (Kd.R_types (Kd.R_types (Kd.R_types (Kd.R_types (HO218.out) BK166.out (by decide)) BK167.out (by decide)) BK168.out (by decide)) BK169.out (by decide)) BK184.out (by decide)) BK185.out (by decide))))
             rintro e w92 ⟨v220, v223, rfl, ho0, ho1, hb⟩
             refine ⟨_, rfl, ?_⟩
             replace HO_167000 := Aside0.mk (Kd.V_below (VU HO_167000.out) hb)
             replace HO_167001 := Aside0.mk (Kd.V_below (VU HO_167001.out) hb)
             replace HO_168000 := Aside0.mk (Kd.V_below (VU HO_168000.out) hb)
             replace HO_168001 := Aside0.mk (Kd.V_below (VU HO_168001.out) hb)
             replace HO174 := Aside0.mk (Kd.V_below (VU HO174.out) hb)
             replace HO177 := Aside0.mk (Kd.V_below (VU HO177.out) hb)
             replace HO180 := Aside0.mk (Kd.V_below (VU HO180.out) hb)
             replace HO183 := Aside0.mk (Kd.V_below (VU HO183.out) hb)
             replace HO190 := Aside0.mk (Kd.V_below (VU HO190.out) hb)
             replace HO195 := Aside0.mk (Kd.V_below (VU HO195.out) hb)
             replace HO206 := Aside0.mk (Kd.V_below (VU HO206.out) hb)
             have HO221 := Aside0.mk (Kd.V_lower (Kd.V_mono (ok' := fun k_ => ((P0_0_ k_ ∨ P0_1_ k_ ∨ P1_0_ k_ ∨ P1_1_ k_) ∨ w.heap.size ≤ k_) ∧ k_ ≠ gb166 ∧ k_ ≠ gb167 ∧ k_ ≠ gb168 ∧ k_ ≠ gb169 ∧ k_ ≠ gb184 ∧ k_ ≠ gb185) ho0 (fun k_ hk_ => ⟨Or.elim hk_ (fun hs_ => Or.elim hs_ (fun hs_ => (.inr (((Kd.R_types (Kd.R_types (Kd.R_types (Kd.R_types (Kd.R_types (Kd.R_types (HO209.out) BK166.out (by decide)) BK167.out (by decide)) BK168.out (by decide)) BK169.out (by decide)) BK184.out (by decide)) BK185.out (by decide)).1 k_ hs_.symm).1.1.1.1.1.1.1))) (fun hs_ => (.inr (((Kd.R_types (Kd.R_types (Kd.R_types (Kd.R_types (Kd.R_types (Kd.R_types (HO218.out) BK166.out (by decide)) BK167.out (by decide)) BK168.out (by decide)) BK169.out (by decide)) BK184.out (by decide)) BK185.out (by decide)).1 k_ hs_.symm).1.1.1.1.1.1.1)))) (fun hn_ => (.inr (Nat.le_trans (below_size (bS6 HB.out GE166.out GE167.out GE168.out GE169.out GE184.out GE185.out)) hn_))), Or.elim hk_ (fun hs_ => Or.elim hs_ (fun hs_ => ((Kd.R_types (Kd.R_types (Kd.R_types (Kd.R_types (Kd.R_types (Kd.R_types (HO209.out) BK166.out (by decide)) BK167.out (by decide)) BK168.out (by decide)) BK169.out (by decide)) BK184.out (by decide)) BK185.out (by decide)).1 k_ hs_.symm).1.1.1.1.1.2) (fun hs_ => ((Kd.R_types (Kd.R_types (Kd.R_types (Kd.R_types (Kd.R_types (Kd.R_types (HO218.out) BK166.out (by decide)) BK167.out (by decide)) BK168.out (by decide)) BK169.out (by decide)) BK184.out (by decide)) BK185.out (by decide)).1 k_ hs_.symm).1.1.1.1.1.2)) (fun hn_ => (Kd.freshB (g := gb166) (o := .cells #[.slice A0_0 l0_0.length c0_0, .slice A0_1 l0_1.length c0_1] 26 (0, 0)) (kU BK166.out) k_ hn_)), Or.elim hk_ (fun hs_ => Or.elim hs_ (fun hs_ => ((Kd.R_types (Kd.R_types (Kd.R_types (Kd.R_types (Kd.R_types (Kd.R_types (HO209.out) BK166.out (by decide)) BK167.out (by decide)) BK168.out (by decide)) BK169.out (by decide)) BK184.out (by decide)) BK185.out (by decide)).1 k_ hs_.symm).1.1.1.1.2) (fun hs_ => ((Kd.R_types (Kd.R_types (Kd.R_types (Kd.R_types (Kd.R_types (Kd.R_types (HO218.out) BK166.out (by decide)) BK167.out (by decide)) BK168.out (by decide)) BK169.out (by decide)) BK184.out (by decide)) BK185.out (by decide)).1 k_ hs_.symm).1.1.1.1.2)) (fun hn_ => (Kd.freshB (g := gb167) (o := .cells #[.slice A1_0 l1_0.length c1_0, .slice A1_1 l1_1.length c1_1] 26 (0, 0)) (kU BK167.out) k_ hn_)), Or.elim hk_ (fun hs_ => Or.elim hs_ (fun hs_ => ((Kd.R_types (Kd.R_types (Kd.R_types (Kd.R_types (Kd.R_types (Kd.R_types (HO209.out) BK166.out (by decide)) BK167.out (by decide)) BK168.out (by decide)) BK169.out (by decide)) BK184.out (by decide)) BK185.out (by decide)).1 k_ hs_.symm).1.1.1.2) (fun hs_ => ((Kd.R_types (Kd.R_types (Kd.R_types (Kd.R_types (Kd.R_types (Kd.R_types (HO218.out) BK166.out (by decide)) BK167.out (by decide)) BK168.out (by decide)) BK169.out (by decide)) BK184.out (by decide)) BK185.out (by decide)).1 k_ hs_.symm).1.1.1.2)) (fun hn_ => (Kd.freshB (g := gb168) (o := .cells #[.slice none 0 0, .slice none 0 0] 26 (0, 0)) (kU BK168.out) k_ hn_)), Or.elim hk_ (fun hs_ => Or.elim hs_ (fun hs_ => ((Kd.R_types (Kd.R_types (Kd.R_types (Kd.R_types (Kd.R_types (Kd.R_types (HO209.out) BK166.out (by decide)) BK167.out (by decide)) BK168.out (by decide)) BK169.out (by decide)) BK184.out (by decide)) BK185.out (by decide)).1 k_ hs_.symm).1.1.2) (fun hs_ => ((Kd.R_types (Kd.R_types (Kd.R_types (Kd.R_types (Kd.R_types (Kd.R_types (HO218.out) BK166.out (by decide)) BK167.out (by decide)) BK168.out (by decide)) BK169.out (by decide)) BK184.out (by decide)) BK185.out (by decide)).1 k_ hs_.symm).1.1.2)) (fun hn_ => (Kd.freshB (g := gb169) (o := .cells #[.slice none 0 0, .slice none 0 0] 26 (0, 0)) (kU BK169.out) k_ hn_)), Or.elim hk_ (fun hs_ => Or.elim hs_ (fun hs_ => ((Kd.R_types (Kd.R_types (Kd.R_types (Kd.R_types (Kd.R_types (Kd.R_types (HO209.out) BK166.out (by decide)) BK167.out (by decide)) BK168.out (by decide)) BK169.out (by decide)) BK184.out (by decide)) BK185.out (by decide)).1 k_ hs_.symm).1.2) (fun hs_ => ((Kd.R_types (Kd.R_types (Kd.R_types (Kd.R_types (Kd.R_types (Kd.R_types (HO218.out) BK166.out (by decide)) BK167.out (by decide)) BK168.out (by decide)) BK169.out (by decide)) BK184.out (by decide)) BK185.out (by decide)).1 k_ hs_.symm).1.2)) (fun hn_ => (Kd.freshB (g := gb184) (o := .cells #[.slice (some ad197) t172.length co57, .slice Ao59 t175.length co59] 26 (0, 0)) (kU BK184.out) k_ hn_)), Or.elim hk_ (fun hs_ => Or.elim hs_ (fun hs_ => ((Kd.R_types (Kd.R_types (Kd.R_types (Kd.R_types (Kd.R_types (Kd.R_types (HO209.out) BK166.out (by decide)) BK167.out (by decide)) BK168.out (by decide)) BK169.out (by decide)) BK184.out (by decide)) BK185.out (by decide)).1 k_ hs_.symm).2) (fun hs_ => ((Kd.R_types (Kd.R_types (Kd.R_types (Kd.R_types (Kd.R_types (Kd.R_types (HO218.out) BK166.out (by decide)) BK167.out (by decide)) BK168.out (by decide)) BK169.out (by decide)) BK184.out (by decide)) BK185.out (by decide)).1 k_ hs_.symm).2)) (fun hn_ => (Kd.freshB (g := gb185) (o := .cells #[.slice (some ad198) t178.length co61, .slice Ao63 t181.length co63] 26 (0, 0)) (kU BK185.out) k_ hn_))⟩)) (below_size (bS6 HB.out GE166.out GE167.out GE168.out GE169.out GE184.out GE185.out)))
             have HO224 := Aside0.mk (Kd.V_lower (Kd.V_mono (ok' := fun k_ => ((P0_0_ k_ ∨ P0_1_ k_ ∨ P1_0_ k_ ∨ P1_1_ k_) ∨ w.heap.size ≤ k_) ∧ k_ ≠ gb166 ∧ k_ ≠ gb167 ∧ k_ ≠ gb168 ∧ k_ ≠ gb169 ∧ k_ ≠ gb184 ∧ k_ ≠ gb185) ho1 (fun k_ hk_ => ⟨Or.elim hk_ (fun hs_ => Or.elim hs_ (fun hs_ => (.inr (((Kd.R_types (Kd.R_types (Kd.R_types (Kd.R_types (Kd.R_types (Kd.R_types (HO209.out) BK166.out (by decide)) BK167.out (by decide)) BK168.out (by decide)) BK169.out (by decide)) BK184.out (by decide)) BK185.out (by decide)).1 k_ hs_.symm).1.1.1.1.1.1.1))) (fun hs_ => (.inr (((Kd.R_types (Kd.R_types (Kd.R_types (Kd.R_types (Kd.R_types (Kd.R_types (HO218.out) BK166.out (by decide)) BK167.out (by decide)) BK168.out (by decide)) BK169.out (by decide)) BK184.out (by decide)) BK185.out (by decide)).1 k_ hs_.symm).1.1.1.1.1.1.1)))) (fun hn_ => (.inr (Nat.le_trans (below_size (bS6 HB.out GE166.out GE167.out GE168.out GE169.out GE184.out GE185.out)) hn_))), Or.elim hk_ (fun hs_ => Or.elim hs_ (fun hs_ => ((Kd.R_types (Kd.R_types (Kd.R_types (Kd.R_types (Kd.R_types (Kd.R_types (HO209.out) BK166.out (by decide)) BK167.out (by decide)) BK168.out (by decide)) BK169.out (by decide)) BK184.out (by decide)) BK185.out (by decide)).1 k_ hs_.symm).1.1.1.1.1.2) (fun hs_ => ((Kd.R_types (Kd.R_types (Kd.R_types (Kd.R_types (Kd.R_types (Kd.R_types (HO218.out) BK166.out (by decide)) BK167.out (by decide)) BK168.out (by decide)) BK169.out (by decide)) BK184.out (by decide)) BK185.out (by decide)).1 k_ hs_.symm).1.1.1.1.1.2)) (fun hn_ => (Kd.freshB (g := gb166) (o := .cells #[.slice A0_0 l0_0.length c0_0, .slice A0_1 l0_1.length c0_1] 26 (0, 0)) (kU BK166.out) k_ hn_)), Or.elim hk_ (fun hs_ => Or.elim hs_ (fun hs_ => ((Kd.R_types (Kd.R_types (Kd.R_types (Kd.R_types (Kd.R_types (Kd.R_types (HO209.out) BK166.out (by decide)) BK167.out (by decide)) BK168.out (by decide)) BK169.out (by decide)) BK184.out (by decide)) BK185.out (by decide)).1 k_ hs_.symm).1.1.1.1.2) (fun hs_ => ((Kd.R_types (Kd.R_types (Kd.R_types (Kd.R_types (Kd.R_types (Kd.R_types (HO218.out) BK166.out (by decide)) BK167.out (by decide)) BK168.out (by decide)) BK169.out (by decide)) BK184.out (by decide)) BK185.out (by decide)).1 k_ hs_.symm).1.1.1.1.2)) (fun hn_ => (Kd.freshB (g := gb167) (o := .cells #[.slice A1_0 l1_0.length c1_0, .slice A1_1 l1_1.length c1_1] 26 (0, 0)) (kU BK167.out) k_ hn_)), Or.elim hk_ (fun hs_ => Or.elim hs_ (fun hs_ => ((Kd.R_types (Kd.R_types (Kd.R_types (Kd.R_types (Kd.R_types (Kd.R_types (HO209.out) BK166.out (by decide)) BK167.out (by decide)) BK168.out (by decide)) BK169.out (by decide)) BK184.out (by decide)) BK185.out (by decide)).1 k_ hs_.symm).1.1.1.2) (fun hs_ => ((Kd.R_types (Kd.R_types (Kd.R_types (Kd.R_types (Kd.R_types (Kd.R_types (HO218.out) BK166.out (by decide)) BK167.out (by decide)) BK168.out (by decide)) BK169.out (by decide)) BK184.out (by decide)) BK185.out (by decide)).1 k_ hs_.symm).1.1.1.2)) (fun hn_ => (Kd.freshB (g := gb168) (o := .cells #[.slice none 0 0, .slice none 0 0] 26 (0, 0)) (kU BK168.out) k_ hn_)), Or.elim hk_ (fun hs_ => Or.elim hs_ (fun hs_ => ((Kd.R_types (Kd.R_types (Kd.R_types (Kd.R_types (Kd.R_types (Kd.R_types (HO209.out) BK166.out (by decide)) BK167.out (by decide)) BK168.out (by decide)) BK169.out (by decide)) BK184.out (by decide)) BK185.out (by decide)).1 k_ hs_.symm).1.1.2) (fun hs_ => ((Kd.R_types (Kd.R_types (Kd.R_types (Kd.R_types (Kd.R_types (Kd.R_types (HO218.out) BK166.out (by decide)) BK167.out (by decide)) BK168.out (by decide)) BK169.out (by decide)) BK184.out (by decide)) BK185.out (by decide)).1 k_ hs_.symm).1.1.2)) (fun hn_ => (Kd.freshB (g := gb169) (o := .cells #[.slice none 0 0, .slice none 0 0] 26 (0, 0)) (kU BK169.out) k_ hn_)), Or.elim hk_ (fun hs_ => Or.elim hs_ (fun hs_ => ((Kd.R_types (Kd.R_types (Kd.R_types (Kd.R_types (Kd.R_types (Kd.R_types (HO209.out) BK166.out (by decide)) BK167.out (by decide)) BK168.out (by decide)) BK169.out (by decide)) BK184.out (by decide)) BK185.out (by decide)).1 k_ hs_.symm).1.2) (fun hs_ => ((Kd.R_types (Kd.R_types (Kd.R_types (Kd.R_types (Kd.R_types (Kd.R_types (HO218.out) BK166.out (by decide)) BK167.out (by decide)) BK168.out (by decide)) BK169.out (by decide)) BK184.out (by decide)) BK185.out (by decide)).1 k_ hs_.symm).1.2)) (fun hn_ => (Kd.freshB (g := gb184) (o := .cells #[.slice (some ad197) t172.length co57, .slice Ao59 t175.length co59] 26 (0, 0)) (kU BK184.out) k_ hn_)), Or.elim hk_ (fun hs_ => Or.elim hs_ (fun hs_ => ((Kd.R_types (Kd.R_types (Kd.R_types (Kd.R_types (Kd.R_types (Kd.R_types (HO209.out) BK166.out (by decide)) BK167.out (by decide)) BK168.out (by decide)) BK169.out (by decide)) BK184.out (by decide)) BK185.out (by decide)).1 k_ hs_.symm).2) (fun hs_ => ((Kd.R_types (Kd.R_types (Kd.R_types (Kd.R_types (Kd.R_types (Kd.R_types (HO218.out) BK166.out (by decide)) BK167.out (by decide)) BK168.out (by decide)) BK169.out (by decide)) BK184.out (by decide)) BK185.out (by decide)).1 k_ hs_.symm).2)) (fun hn_ => (Kd.freshB (g := gb185) (o := .cells #[.slice (some ad198) t178.length co61, .slice Ao63 t181.length co63] 26 (0, 0)) (kU BK185.out) k_ hn_))⟩)) (below_size (bS6 HB.out GE166.out GE167.out GE168.out GE169.out GE184.out GE185.out)))
             replace HO209 := Aside0.mk (Kd.R_below (RU HO209.out) hb)
             replace HO218 := Aside0.mk (Kd.R_below (RU HO218.out) hb)
             replace BK166 := Aside0.mk (kB BK166.out hb)
             replace BK167 := Aside0.mk (kB BK167.out hb)
             replace BK168 := Aside0.mk (kB BK168.out hb)
             replace BK169 := Aside0.mk (kB BK169.out hb)
             replace BK184 := Aside0.mk (kB BK184.out hb)
             replace BK185 := Aside0.mk (kB BK185.out hb)
             replace HB := Aside0.mk (below_step (bS6 HB.out GE166.out GE167.out GE168.out GE169.out GE184.out GE185.out) hb)
             (try clear hb)
             (try clear hb2)
             (try clear hk)
             (try clear hi)
             (try clear ho0)
             (try clear ho1)
             obtain ⟨Ao93, co93, eo93⟩ := Kd.V_slice HO221.out
             (first | subst eo93 | (injection eo93 with f1_ f2_ f3_; have f4_ := f1_.symm; have f5_ := f3_.symm; clear f1_ f2_ f3_; subst f4_; subst f5_))
             obtain ⟨Ao95, co95, eo95⟩ := Kd.V_slice HO224.out
             (first | subst eo95 | (injection eo95 with f1_ f2_ f3_; have f4_ := f1_.symm; have f5_ := f3_.symm; clear f1_ f2_ f3_; subst f4_; subst f5_))
             refine hK.out _ _ ⟨(blk_cell BK184.out 0).trans rfl, (blk_cell BK184.out 1).trans rfl, (blk_cell BK185.out 0).trans rfl, (blk_cell BK185.out 1).trans rfl⟩ (fun hHeld => ?_)
             clear hK K
             refine norm_ (a' := ?_) ?_ ?_
             rotate_left
             ·
              show Act.put _ (some 66) _ = _
              simp only [Act.put, List.setIfInBounds_toArray, List.set_cons_zero, List.set_cons_succ, i64_w, i32_w]
              rfl
             refine pure_ (i := 10) (N := some 67) (v := ?_) (a' := ?_) #[true, true, true, true, true, true, true, true, true, true, true, false, false, false] rfl rfl (any_of HT_.out (by kernel_rfl)) (fun _ _ _ h => h) (Or.inl ⟨by rfl, ?_⟩) ?_ ?_
             rotate_left
             ·
              intro w'
              go_simp
              with_reducible rfl
             rotate_left
             ·
              simp only [Act.put, List.setIfInBounds_toArray, List.set_cons_zero, List.set_cons_succ, i64_w, i32_w]
              rfl
             refine pure_ (i := 11) (N := some 68) (v := ?_) (a' := ?_) #[true, true, true, true, true, true, true, true, true, true, true, true, false, false] rfl rfl (any_of HT_.out (by kernel_rfl)) (fun _ _ _ h => h) (Or.inl ⟨by rfl, ?_⟩) ?_ ?_
             rotate_left
             ·
              intro w'
              go_simp
              with_reducible rfl
             rotate_left
             ·
              simp only [Act.put, List.setIfInBounds_toArray, List.set_cons_zero, List.set_cons_succ, i64_w, i32_w]
              rfl
             refine one_ (i := 12) (N := none) #[true, true, true, true, true, true, true, true, true, true, true, true, true, false] rfl rfl (one_of HT_.out (by kernel_rfl)) (by decide) (fun K hK => ?_)
             have hs94 : w92.cell? ⟨gb168, 0, none⟩ = some (.slice none 0 0) := (blk_cell BK168.out 0).trans rfl
             have hfs94 := blk_frozen BK168.out 0
             have hns94_0 := NB166_168.out
             have hns94_1 := NB167_168.out
             have hns94_3 := NB169_168.out
             have hns94_4 := NB184_168.out
             have hns94_5 := NB185_168.out
             have hms94_0 := NB168_166.out
             have hms94_1 := NB168_167.out
             have hms94_3 := NB168_169.out
             have hms94_4 := NB168_184.out
             have hms94_5 := NB168_185.out
             have hs96 : w92.cell? ⟨gb168, 1, none⟩ = some (.slice none 0 0) := (blk_cell BK168.out 1).trans rfl
             have hfs96 := blk_frozen BK168.out 1
             have hns96_0 := NB166_168.out
             have hns96_1 := NB167_168.out
             have hns96_3 := NB169_168.out
             have hns96_4 := NB184_168.out
             have hns96_5 := NB185_168.out
             have hms96_0 := NB168_166.out
             have hms96_1 := NB168_167.out
             have hms96_3 := NB168_169.out
             have hms96_4 := NB168_184.out
             have hms96_5 := NB168_185.out
             refine skip_ (w1 := ?_) (by rfl) rfl ?_ ?_
             rotate_left
             ·
              go_simp
              rfl
             refine hK.out _ _ ⟨((cell_far (p := ⟨gb168, _, none⟩) NB184_168.out _).trans (((cell_far (p := ⟨gb168, _, none⟩) NB184_168.out _).trans (hHeld.1)))), ((cell_far (p := ⟨gb168, _, none⟩) NB184_168.out _).trans (((cell_far (p := ⟨gb168, _, none⟩) NB184_168.out _).trans (hHeld.2.1)))), ((cell_far (p := ⟨gb168, _, none⟩) NB185_168.out _).trans (((cell_far (p := ⟨gb168, _, none⟩) NB185_168.out _).trans (hHeld.2.2.1)))), ((cell_far (p := ⟨gb168, _, none⟩) NB185_168.out _).trans (((cell_far (p := ⟨gb168, _, none⟩) NB185_168.out _).trans (hHeld.2.2.2))))⟩ (fun hHeld => ?_)
             clear hK K
             refine pure_ (i := 13) (N := some 5) (v := ?_) (a' := ?_) #[true, true, true, true, true, true, true, true, true, true, true, true, true, true] rfl rfl (any_of HT_.out (by kernel_rfl)) (fun _ _ _ h => h) (Or.inl ⟨by rfl, ?_⟩) ?_ ?_
             rotate_left
             ·
              intro w'
              go_simp
              with_reducible rfl
             rotate_left
             ·
              simp only [Act.put, List.setIfInBounds_toArray, List.set_cons_zero, List.set_cons_succ, i64_w, i32_w]
              rfl
             refine done_ (done_of HT_.out (by kernel_rfl)) ?_
             try go_wp2
             refine bodyPost_ret (results_ct rfl _ _ gb168 26 #[.slice Ao93 t219.length co93, .slice Ao95 t222.length co95] (0, 0) _ rfl (by refine kU ?_; refine blk_put (cs := #[.slice Ao93 t219.length co93, .slice none 0 0]) ?_ 1 _ rfl; refine kU ?_; refine blk_put (cs := #[.slice none 0 0, .slice none 0 0]) ?_ 0 _ rfl; refine kU ?_; exact BK168.out) Try.underlying26 rfl (by kernel_rfl)) rfl ?_
             exact ⟨_, _, by first | rfl | (simp [errW_none, errW_some] <;> rfl) | (simp [*, errW_none, errW_some] <;> rfl), by refine VU ?_; exact Kd.V_mono (Kd.V_far (p := ⟨gb168, 1, none⟩) (Kd.V_far (p := ⟨gb168, 0, none⟩) (Kd.V_mono HO221.out (fun k_ hk => (⟨hk, hk.2.2.2.1⟩ : _ ∧ k_ ≠ gb168))) (fun _ hk => hk.2) (.slice Ao93 t219.length co93)) (fun _ hk => hk.2) (.slice Ao95 t222.length co95)) (fun _ hk => hk.1.1), by refine VU ?_; exact Kd.V_mono (Kd.V_far (p := ⟨gb168, 1, none⟩) (Kd.V_far (p := ⟨gb168, 0, none⟩) (Kd.V_mono HO224.out (fun k_ hk => (⟨hk, hk.2.2.2.1⟩ : _ ∧ k_ ≠ gb168))) (fun _ hk => hk.2) (.slice Ao93 t219.length co93)) (fun _ hk => hk.2) (.slice Ao95 t222.length co95)) (fun _ hk => hk.1.1), by exact bS6 HB.out GE166.out GE167.out GE168.out GE169.out GE184.out GE185.out⟩
theorem spec_Join.calls (k : Nat) (P0_0_ : Nat → Prop) (A0_0 : Option Addr) (c0_0 : Nat) (l0_0 : List Int) (P0_1_ : Nat → Prop) (A0_1 : Option Addr) (c0_1 : Nat) (l0_1 : List Int) (P1_0_ : Nat → Prop) (A1_0 : Option Addr) (c1_0 : Nat) (l1_0 : List Int) (P1_1_ : Nat → Prop) (A1_1 : Option Addr) (c1_1 : Nat) (l1_1 : List Int) (r1 : List Int) (r2 : List Int) (r3 : Int) (w : World) (hs0_0 : Kd.V (Kd.int .i64) 3 w w.heap.size (fun k_ => P0_0_ k_) (.slice A0_0 l0_0.length c0_0) l0_0) (hs0_1 : Kd.V (Kd.int .i64) 3 w w.heap.size (fun k_ => P0_1_ k_) (.slice A0_1 l0_1.length c0_1) l0_1) (hs1_0 : Kd.V (Kd.int .i64) 3 w w.heap.size (fun k_ => P1_0_ k_) (.slice A1_0 l1_0.length c1_0) l1_0) (hs1_1 : Kd.V (Kd.int .i64) 3 w w.heap.size (fun k_ => P1_1_ k_) (.slice A1_1 l1_1.length c1_1) l1_1) (h : spec_Join.f k l0_0 l0_1 l1_0 l1_1 = some (r1, r2, r3)) :
    Calls Try.prog 50 #[.agg #[.slice A0_0 l0_0.length c0_0, .slice A0_1 l0_1.length c0_1], .agg #[.slice A1_0 l1_0.length c1_0, .slice A1_1 l1_1.length c1_1]] w fun e w' => ∃ v0_ v1_ : Value, e = .returned (.tuple #[.agg #[v0_, v1_], .int .i64 r3]) ∧ Kd.V (Kd.int .i64) 3 w' w.heap.size (fun k_ => ((P0_0_ k_ ∨ P0_1_ k_ ∨ P1_0_ k_ ∨ P1_1_ k_) ∨ w.heap.size ≤ k_)) v0_ r1 ∧ Kd.V (Kd.int .i64) 3 w' w.heap.size (fun k_ => ((P0_0_ k_ ∨ P0_1_ k_ ∨ P1_0_ k_ ∨ P1_1_ k_) ∨ w.heap.size ≤ k_)) v1_ r2 ∧ Below w.heap.size w w' := by
  exact (spec_Join.part1.2 fun _ => spec_Join.part2) k P0_0_ A0_0 c0_0 l0_0 P0_1_ A0_1 c0_1 l0_1 P1_0_ A1_0 c1_0 l1_0 P1_1_ A1_1 c1_1 l1_1 r1 r2 r3 w hs0_0 hs0_1 hs1_0 hs1_1 h
end Go.Proofs.Ytcnbajdnlkcjjaa.PFnExactJoin
