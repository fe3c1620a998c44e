/-
  NetPlays, walked by hand: a net in which anything happens has just the packets that were sent and not taken, in order, and one more of each that is there twice.
-/
import Derived.Test.YthgdojaildccaaaHNetPlays1
import Derived.Test.YthgdojaildccaaaHNetPlays2
import Derived.Test.YthgdojaildccaaaHNetPlays3
namespace Go.Proofs.Ythgdojaildccaaa.Pure
open Go.RowKit Go.Proofs.Ythgdojaildccaaa.M Go.Proofs.YthgdojaildccaaaW.PrintWords Go.Proofs.YthgdojaildccaaaW.PrintLast Go.Proofs.YthgdojaildccaaaW.PrintMore
set_option linter.unusedVariables false
set_option linter.unusedSimpArgs false
set_option maxHeartbeats 16000000 in
set_option maxRecDepth 100000 in
theorem NetPlays_hand (A0 : Option Addr) (c0 : Nat) (l0 : List S28) (w : World) (hr : Kd.C k28 w A0 l0.length l0) (hc : l0.length ≤ c0) (g0 : l0.length * 40 ≤ 140737488351232 ∧ ∀ x ∈ l0, G28 x) :
    Calls Try.prog 3 #[.slice A0 l0.length c0] w fun e w' => e = .returned (.bool true) ∧ Below w.heap.size w w' := by
  have HR := Aside0.mk hr; have HF := Aside0.mk (show ∀ x ∈ l0, ∀ y ∈ x.f2, Fit y from fun x hx y hy => fit_of ((g0.2 x hx).2.2.2 y hy))
  clear hr hc g0
  go_enter Try.func3, Try.ntmps3
  go_wp2_with fail
  refine (carries_calls w).mono ?_; rintro x w1 ⟨rfl, hb⟩; have B1 := Aside0.mk hb; clear hb
  by_cases hu : l0.length > 60
  · have d1 : decide (60 < (l0.length : Int)) = true := decide_eq_true (by omega)
    have d2 : decide (60 < l0.length) = true := decide_eq_true hu
    have d3 : (60 < l0.length) = True := eq_true hu
    clear hu
    go_wp2_with fail
    go_ret
    exact ⟨rfl, B1.out⟩
  have u1 : decide (60 < (l0.length : Int)) = false := decide_eq_false (by omega)
  have u2 : decide (60 < l0.length) = false := decide_eq_false hu
  have u3 : (60 < l0.length) = False := eq_false hu
  have H60 := Aside0.mk (show l0.length ≤ 60 by omega)
  clear hu
  go_wp2_with (first | ((with_reducible refine gate_dst (N := 3) rfl ?_); refine box_event ?hg (N := 3) ?hd (cs := #[.slice none 0 0]) (t := 26) ?hr ?_; (case hd => rfl); (case hg => rfl); (case hr => first | (go_simp; done) | (go_simp; rfl)); intro g3 hg w2 hbox hb; have N2 := Aside0.mk (show MN w w2 g3 (.slice none 0 0) [] [] (fun _ => True) from ⟨fun q hq => absurd hq (by simp), Kd.R_nil _ _ _ _ _, ⟨⟨⟨⟨by rw [hg]; exact B1.out.size, by simp [Value.ownBlock]⟩, trivial⟩, by rw [hg]; exact B1.out.size⟩, ⟨none, 0, hbox, Kd.R_nil _ _ _ _ _⟩, by simp, by simp⟩, below_step B1.out hb⟩); clear hb hg hbox))
  clear u1 u2 u3
  go_loopg [4, 23] (l0.length + 1) (fun kq v4 v23 w' => ∃ (i : Nat) (ms : List S37), v23 = .int .i64 (i : Int) ∧ Aside0 (i ≤ l0.length ∧ i + kq = l0.length + 1) ∧ Aside0 (ms.length ≤ 50 * i) ∧ Aside0 (MN w w' g3 v4 ms ms (fun _ => True)))
  case atStart => exact ⟨0, [], rfl, ⟨by omega, by omega⟩, ⟨by simp⟩, N2⟩
  case round =>
    obtain ⟨i, ms, rfl, HI, HL, N4⟩ := hrel
    obtain ⟨A4, c4, e4_⟩ := Kd.R_slice N4.out.row
    subst e4_
    clear N2
    by_cases hi : i < l0.length
    · obtain ⟨ad0, A2, c2, ea, x0, x1, x2, l2, g2⟩ := at_T28 HR.out (i : Int) (by omega) (by omega)
      have hfp := HF.out _ (at_range hi)
      subst ea
      obtain ⟨ok_, hok⟩ : ∃ z, z = (rd_T28 l0 (i : Int)).f0 := ⟨_, rfl⟩
      obtain ⟨oi, hoi⟩ : ∃ z, z = (rd_T28 l0 (i : Int)).f1 := ⟨_, rfl⟩
      obtain ⟨ps, hps⟩ : ∃ z, z = (rd_T28 l0 (i : Int)).f2 := ⟨_, rfl⟩
      rw [← hok] at x0
      rw [← hoi] at x1
      rw [← hps] at x2 l2 g2 hfp
      rw [Int.toNat_natCast] at x0 x1 x2
      have y0 := cell_bel x0 N4.out.bel; have y1 := cell_bel x1 N4.out.bel; have y2 := cell_bel x2 N4.out.bel
      have NK := Aside0.mk (nk3_ hi HI.out.2)
      by_cases hth : 0 ≤ oi
      rotate_left
      · by_cases hk0 : ok_ = 0
        · refine np_0neg hi H60.out HL.out N4.out y0 y1 y2 l2 g2 hfp hk0 hth ?_
          intro u2 u6 u7 u8 u9 u10 u11 u12 u24 u25 u26 u27 u28 u29 u30 u31 u32 u33 u34 u35 u36 u37 u38 u39 u40 u41 u42 u43 u44 u45 u46 u47 u48 u49 u50 u51 u52 u53 u54 u55 u56 u57 u58 u59 u60 u61 u62 u63 u64 u65 u66 u67 u68 u69 u70 u71 u72 u73 u74 u75 u76 u77 u78 u79 u80 u81 u82 u83 u84 u85 u86 u87 u88 u89 u90 u91 u92 u93 u94 u95 u96 u97 u98 u99 u100 u101 u102 u103 u104 u105 u106 u107 u108 u109 u110 u111 u112 u113 u114 u115 u116 u117 u118 u119 u120 u121 u122 u123 u124 u125 u126 u127 u128 u129 u130 u131 u132 u133 u134 u135 u136 u137 u138 u139 u140 u141 u142 u143 u144 u145 u146 u147 u148 u149 u150 u151 u152 u153 u154 u155 u156 u157 u158 u159 u160 u161 u162 u163 u164 u165 u166 v4 v23 w' ms' e1 e2 e3
          subst e1
          dsimp only
          go_wp2_with fail
          go_roundg (gk - 1)
          case measure => have := NK.out.2; omega
          case rel => exact ⟨i + 1, ms', rfl, ⟨NK.out.1⟩, ⟨e2⟩, ⟨e3⟩⟩
        by_cases hk1 : ok_ = 1
        · refine np_1neg hi H60.out HL.out N4.out y0 y1 y2 l2 g2 hfp hk0 hk1 hth ?_
          intro u2 u6 u7 u8 u9 u10 u11 u12 u24 u25 u26 u27 u28 u29 u30 u31 u32 u33 u34 u35 u36 u37 u38 u39 u40 u41 u42 u43 u44 u45 u46 u47 u48 u49 u50 u51 u52 u53 u54 u55 u56 u57 u58 u59 u60 u61 u62 u63 u64 u65 u66 u67 u68 u69 u70 u71 u72 u73 u74 u75 u76 u77 u78 u79 u80 u81 u82 u83 u84 u85 u86 u87 u88 u89 u90 u91 u92 u93 u94 u95 u96 u97 u98 u99 u100 u101 u102 u103 u104 u105 u106 u107 u108 u109 u110 u111 u112 u113 u114 u115 u116 u117 u118 u119 u120 u121 u122 u123 u124 u125 u126 u127 u128 u129 u130 u131 u132 u133 u134 u135 u136 u137 u138 u139 u140 u141 u142 u143 u144 u145 u146 u147 u148 u149 u150 u151 u152 u153 u154 u155 u156 u157 u158 u159 u160 u161 u162 u163 u164 u165 u166 v4 v23 w' ms' e1 e2 e3
          subst e1
          dsimp only
          go_wp2_with fail
          go_roundg (gk - 1)
          case measure => have := NK.out.2; omega
          case rel => exact ⟨i + 1, ms', rfl, ⟨NK.out.1⟩, ⟨e2⟩, ⟨e3⟩⟩
        by_cases hk2 : ok_ = 2
        · refine np_2neg hi H60.out HL.out N4.out y0 y1 y2 l2 g2 hfp hk0 hk1 hk2 hth ?_
          intro u2 u6 u7 u8 u9 u10 u11 u12 u24 u25 u26 u27 u28 u29 u30 u31 u32 u33 u34 u35 u36 u37 u38 u39 u40 u41 u42 u43 u44 u45 u46 u47 u48 u49 u50 u51 u52 u53 u54 u55 u56 u57 u58 u59 u60 u61 u62 u63 u64 u65 u66 u67 u68 u69 u70 u71 u72 u73 u74 u75 u76 u77 u78 u79 u80 u81 u82 u83 u84 u85 u86 u87 u88 u89 u90 u91 u92 u93 u94 u95 u96 u97 u98 u99 u100 u101 u102 u103 u104 u105 u106 u107 u108 u109 u110 u111 u112 u113 u114 u115 u116 u117 u118 u119 u120 u121 u122 u123 u124 u125 u126 u127 u128 u129 u130 u131 u132 u133 u134 u135 u136 u137 u138 u139 u140 u141 u142 u143 u144 u145 u146 u147 u148 u149 u150 u151 u152 u153 u154 u155 u156 u157 u158 u159 u160 u161 u162 u163 u164 u165 u166 v4 v23 w' ms' e1 e2 e3
          subst e1
          dsimp only
          go_wp2_with fail
          go_roundg (gk - 1)
          case measure => have := NK.out.2; omega
          case rel => exact ⟨i + 1, ms', rfl, ⟨NK.out.1⟩, ⟨e2⟩, ⟨e3⟩⟩
        by_cases hk3 : ok_ = 3
        · refine np_3neg hi H60.out HL.out N4.out y0 y1 y2 l2 g2 hfp hk0 hk1 hk2 hk3 hth ?_
          intro u2 u6 u7 u8 u9 u10 u11 u12 u24 u25 u26 u27 u28 u29 u30 u31 u32 u33 u34 u35 u36 u37 u38 u39 u40 u41 u42 u43 u44 u45 u46 u47 u48 u49 u50 u51 u52 u53 u54 u55 u56 u57 u58 u59 u60 u61 u62 u63 u64 u65 u66 u67 u68 u69 u70 u71 u72 u73 u74 u75 u76 u77 u78 u79 u80 u81 u82 u83 u84 u85 u86 u87 u88 u89 u90 u91 u92 u93 u94 u95 u96 u97 u98 u99 u100 u101 u102 u103 u104 u105 u106 u107 u108 u109 u110 u111 u112 u113 u114 u115 u116 u117 u118 u119 u120 u121 u122 u123 u124 u125 u126 u127 u128 u129 u130 u131 u132 u133 u134 u135 u136 u137 u138 u139 u140 u141 u142 u143 u144 u145 u146 u147 u148 u149 u150 u151 u152 u153 u154 u155 u156 u157 u158 u159 u160 u161 u162 u163 u164 u165 u166 v4 v23 w' ms' e1 e2 e3
          subst e1
          dsimp only
          go_wp2_with fail
          go_roundg (gk - 1)
          case measure => have := NK.out.2; omega
          case rel => exact ⟨i + 1, ms', rfl, ⟨NK.out.1⟩, ⟨e2⟩, ⟨e3⟩⟩
        refine np_4neg hi H60.out HL.out N4.out y0 y1 y2 l2 g2 hfp hk0 hk1 hk2 hk3 hth ?_
        intro u2 u6 u7 u8 u9 u10 u11 u12 u24 u25 u26 u27 u28 u29 u30 u31 u32 u33 u34 u35 u36 u37 u38 u39 u40 u41 u42 u43 u44 u45 u46 u47 u48 u49 u50 u51 u52 u53 u54 u55 u56 u57 u58 u59 u60 u61 u62 u63 u64 u65 u66 u67 u68 u69 u70 u71 u72 u73 u74 u75 u76 u77 u78 u79 u80 u81 u82 u83 u84 u85 u86 u87 u88 u89 u90 u91 u92 u93 u94 u95 u96 u97 u98 u99 u100 u101 u102 u103 u104 u105 u106 u107 u108 u109 u110 u111 u112 u113 u114 u115 u116 u117 u118 u119 u120 u121 u122 u123 u124 u125 u126 u127 u128 u129 u130 u131 u132 u133 u134 u135 u136 u137 u138 u139 u140 u141 u142 u143 u144 u145 u146 u147 u148 u149 u150 u151 u152 u153 u154 u155 u156 u157 u158 u159 u160 u161 u162 u163 u164 u165 u166 v4 v23 w' ms' e1 e2 e3
        subst e1
        dsimp only
        go_wp2_with fail
        go_roundg (gk - 1)
        case measure => have := NK.out.2; omega
        case rel => exact ⟨i + 1, ms', rfl, ⟨NK.out.1⟩, ⟨e2⟩, ⟨e3⟩⟩
      by_cases hlt : oi < (ms.length : Int)
      rotate_left
      · by_cases hk0 : ok_ = 0
        · refine np_0big hi H60.out HL.out N4.out y0 y1 y2 l2 g2 hfp hk0 hth hlt ?_
          intro u2 u6 u7 u8 u9 u10 u11 u12 u24 u25 u26 u27 u28 u29 u30 u31 u32 u33 u34 u35 u36 u37 u38 u39 u40 u41 u42 u43 u44 u45 u46 u47 u48 u49 u50 u51 u52 u53 u54 u55 u56 u57 u58 u59 u60 u61 u62 u63 u64 u65 u66 u67 u68 u69 u70 u71 u72 u73 u74 u75 u76 u77 u78 u79 u80 u81 u82 u83 u84 u85 u86 u87 u88 u89 u90 u91 u92 u93 u94 u95 u96 u97 u98 u99 u100 u101 u102 u103 u104 u105 u106 u107 u108 u109 u110 u111 u112 u113 u114 u115 u116 u117 u118 u119 u120 u121 u122 u123 u124 u125 u126 u127 u128 u129 u130 u131 u132 u133 u134 u135 u136 u137 u138 u139 u140 u141 u142 u143 u144 u145 u146 u147 u148 u149 u150 u151 u152 u153 u154 u155 u156 u157 u158 u159 u160 u161 u162 u163 u164 u165 u166 v4 v23 w' ms' e1 e2 e3
          subst e1
          dsimp only
          go_wp2_with fail
          go_roundg (gk - 1)
          case measure => have := NK.out.2; omega
          case rel => exact ⟨i + 1, ms', rfl, ⟨NK.out.1⟩, ⟨e2⟩, ⟨e3⟩⟩
        by_cases hk1 : ok_ = 1
        · refine np_1big hi H60.out HL.out N4.out y0 y1 y2 l2 g2 hfp hk0 hk1 hth hlt ?_
          intro u2 u6 u7 u8 u9 u10 u11 u12 u24 u25 u26 u27 u28 u29 u30 u31 u32 u33 u34 u35 u36 u37 u38 u39 u40 u41 u42 u43 u44 u45 u46 u47 u48 u49 u50 u51 u52 u53 u54 u55 u56 u57 u58 u59 u60 u61 u62 u63 u64 u65 u66 u67 u68 u69 u70 u71 u72 u73 u74 u75 u76 u77 u78 u79 u80 u81 u82 u83 u84 u85 u86 u87 u88 u89 u90 u91 u92 u93 u94 u95 u96 u97 u98 u99 u100 u101 u102 u103 u104 u105 u106 u107 u108 u109 u110 u111 u112 u113 u114 u115 u116 u117 u118 u119 u120 u121 u122 u123 u124 u125 u126 u127 u128 u129 u130 u131 u132 u133 u134 u135 u136 u137 u138 u139 u140 u141 u142 u143 u144 u145 u146 u147 u148 u149 u150 u151 u152 u153 u154 u155 u156 u157 u158 u159 u160 u161 u162 u163 u164 u165 u166 v4 v23 w' ms' e1 e2 e3
          subst e1
          dsimp only
          go_wp2_with fail
          go_roundg (gk - 1)
          case measure => have := NK.out.2; omega
          case rel => exact ⟨i + 1, ms', rfl, ⟨NK.out.1⟩, ⟨e2⟩, ⟨e3⟩⟩
        by_cases hk2 : ok_ = 2
        · refine np_2big hi H60.out HL.out N4.out y0 y1 y2 l2 g2 hfp hk0 hk1 hk2 hth hlt ?_
          intro u2 u6 u7 u8 u9 u10 u11 u12 u24 u25 u26 u27 u28 u29 u30 u31 u32 u33 u34 u35 u36 u37 u38 u39 u40 u41 u42 u43 u44 u45 u46 u47 u48 u49 u50 u51 u52 u53 u54 u55 u56 u57 u58 u59 u60 u61 u62 u63 u64 u65 u66 u67 u68 u69 u70 u71 u72 u73 u74 u75 u76 u77 u78 u79 u80 u81 u82 u83 u84 u85 u86 u87 u88 u89 u90 u91 u92 u93 u94 u95 u96 u97 u98 u99 u100 u101 u102 u103 u104 u105 u106 u107 u108 u109 u110 u111 u112 u113 u114 u115 u116 u117 u118 u119 u120 u121 u122 u123 u124 u125 u126 u127 u128 u129 u130 u131 u132 u133 u134 u135 u136 u137 u138 u139 u140 u141 u142 u143 u144 u145 u146 u147 u148 u149 u150 u151 u152 u153 u154 u155 u156 u157 u158 u159 u160 u161 u162 u163 u164 u165 u166 v4 v23 w' ms' e1 e2 e3
          subst e1
          dsimp only
          go_wp2_with fail
          go_roundg (gk - 1)
          case measure => have := NK.out.2; omega
          case rel => exact ⟨i + 1, ms', rfl, ⟨NK.out.1⟩, ⟨e2⟩, ⟨e3⟩⟩
        by_cases hk3 : ok_ = 3
        · refine np_3big hi H60.out HL.out N4.out y0 y1 y2 l2 g2 hfp hk0 hk1 hk2 hk3 hth hlt ?_
          intro u2 u6 u7 u8 u9 u10 u11 u12 u24 u25 u26 u27 u28 u29 u30 u31 u32 u33 u34 u35 u36 u37 u38 u39 u40 u41 u42 u43 u44 u45 u46 u47 u48 u49 u50 u51 u52 u53 u54 u55 u56 u57 u58 u59 u60 u61 u62 u63 u64 u65 u66 u67 u68 u69 u70 u71 u72 u73 u74 u75 u76 u77 u78 u79 u80 u81 u82 u83 u84 u85 u86 u87 u88 u89 u90 u91 u92 u93 u94 u95 u96 u97 u98 u99 u100 u101 u102 u103 u104 u105 u106 u107 u108 u109 u110 u111 u112 u113 u114 u115 u116 u117 u118 u119 u120 u121 u122 u123 u124 u125 u126 u127 u128 u129 u130 u131 u132 u133 u134 u135 u136 u137 u138 u139 u140 u141 u142 u143 u144 u145 u146 u147 u148 u149 u150 u151 u152 u153 u154 u155 u156 u157 u158 u159 u160 u161 u162 u163 u164 u165 u166 v4 v23 w' ms' e1 e2 e3
          subst e1
          dsimp only
          go_wp2_with fail
          go_roundg (gk - 1)
          case measure => have := NK.out.2; omega
          case rel => exact ⟨i + 1, ms', rfl, ⟨NK.out.1⟩, ⟨e2⟩, ⟨e3⟩⟩
        refine np_4big hi H60.out HL.out N4.out y0 y1 y2 l2 g2 hfp hk0 hk1 hk2 hk3 hth hlt ?_
        intro u2 u6 u7 u8 u9 u10 u11 u12 u24 u25 u26 u27 u28 u29 u30 u31 u32 u33 u34 u35 u36 u37 u38 u39 u40 u41 u42 u43 u44 u45 u46 u47 u48 u49 u50 u51 u52 u53 u54 u55 u56 u57 u58 u59 u60 u61 u62 u63 u64 u65 u66 u67 u68 u69 u70 u71 u72 u73 u74 u75 u76 u77 u78 u79 u80 u81 u82 u83 u84 u85 u86 u87 u88 u89 u90 u91 u92 u93 u94 u95 u96 u97 u98 u99 u100 u101 u102 u103 u104 u105 u106 u107 u108 u109 u110 u111 u112 u113 u114 u115 u116 u117 u118 u119 u120 u121 u122 u123 u124 u125 u126 u127 u128 u129 u130 u131 u132 u133 u134 u135 u136 u137 u138 u139 u140 u141 u142 u143 u144 u145 u146 u147 u148 u149 u150 u151 u152 u153 u154 u155 u156 u157 u158 u159 u160 u161 u162 u163 u164 u165 u166 v4 v23 w' ms' e1 e2 e3
        subst e1
        dsimp only
        go_wp2_with fail
        go_roundg (gk - 1)
        case measure => have := NK.out.2; omega
        case rel => exact ⟨i + 1, ms', rfl, ⟨NK.out.1⟩, ⟨e2⟩, ⟨e3⟩⟩
      by_cases hk0 : ok_ = 0
      · refine np_0in hi H60.out HL.out N4.out y0 y1 y2 l2 g2 hfp hk0 hth hlt ?_
        intro u2 u6 u7 u8 u9 u10 u11 u12 u24 u25 u26 u27 u28 u29 u30 u31 u32 u33 u34 u35 u36 u37 u38 u39 u40 u41 u42 u43 u44 u45 u46 u47 u48 u49 u50 u51 u52 u53 u54 u55 u56 u57 u58 u59 u60 u61 u62 u63 u64 u65 u66 u67 u68 u69 u70 u71 u72 u73 u74 u75 u76 u77 u78 u79 u80 u81 u82 u83 u84 u85 u86 u87 u88 u89 u90 u91 u92 u93 u94 u95 u96 u97 u98 u99 u100 u101 u102 u103 u104 u105 u106 u107 u108 u109 u110 u111 u112 u113 u114 u115 u116 u117 u118 u119 u120 u121 u122 u123 u124 u125 u126 u127 u128 u129 u130 u131 u132 u133 u134 u135 u136 u137 u138 u139 u140 u141 u142 u143 u144 u145 u146 u147 u148 u149 u150 u151 u152 u153 u154 u155 u156 u157 u158 u159 u160 u161 u162 u163 u164 u165 u166 v4 v23 w' ms' e1 e2 e3
        subst e1
        dsimp only
        go_wp2_with fail
        go_roundg (gk - 1)
        case measure => have := NK.out.2; omega
        case rel => exact ⟨i + 1, ms', rfl, ⟨NK.out.1⟩, ⟨e2⟩, ⟨e3⟩⟩
      by_cases hk1 : ok_ = 1
      · refine np_1in hi H60.out HL.out N4.out y0 y1 y2 l2 g2 hfp hk0 hk1 hth hlt ?_
        intro u2 u6 u7 u8 u9 u10 u11 u12 u24 u25 u26 u27 u28 u29 u30 u31 u32 u33 u34 u35 u36 u37 u38 u39 u40 u41 u42 u43 u44 u45 u46 u47 u48 u49 u50 u51 u52 u53 u54 u55 u56 u57 u58 u59 u60 u61 u62 u63 u64 u65 u66 u67 u68 u69 u70 u71 u72 u73 u74 u75 u76 u77 u78 u79 u80 u81 u82 u83 u84 u85 u86 u87 u88 u89 u90 u91 u92 u93 u94 u95 u96 u97 u98 u99 u100 u101 u102 u103 u104 u105 u106 u107 u108 u109 u110 u111 u112 u113 u114 u115 u116 u117 u118 u119 u120 u121 u122 u123 u124 u125 u126 u127 u128 u129 u130 u131 u132 u133 u134 u135 u136 u137 u138 u139 u140 u141 u142 u143 u144 u145 u146 u147 u148 u149 u150 u151 u152 u153 u154 u155 u156 u157 u158 u159 u160 u161 u162 u163 u164 u165 u166 v4 v23 w' ms' e1 e2 e3
        subst e1
        dsimp only
        go_wp2_with fail
        go_roundg (gk - 1)
        case measure => have := NK.out.2; omega
        case rel => exact ⟨i + 1, ms', rfl, ⟨NK.out.1⟩, ⟨e2⟩, ⟨e3⟩⟩
      by_cases hk2 : ok_ = 2
      · refine np_2in hi H60.out HL.out N4.out y0 y1 y2 l2 g2 hfp hk0 hk1 hk2 hth hlt ?_
        intro u2 u6 u7 u8 u9 u10 u11 u12 u24 u25 u26 u27 u28 u29 u30 u31 u32 u33 u34 u35 u36 u37 u38 u39 u40 u41 u42 u43 u44 u45 u46 u47 u48 u49 u50 u51 u52 u53 u54 u55 u56 u57 u58 u59 u60 u61 u62 u63 u64 u65 u66 u67 u68 u69 u70 u71 u72 u73 u74 u75 u76 u77 u78 u79 u80 u81 u82 u83 u84 u85 u86 u87 u88 u89 u90 u91 u92 u93 u94 u95 u96 u97 u98 u99 u100 u101 u102 u103 u104 u105 u106 u107 u108 u109 u110 u111 u112 u113 u114 u115 u116 u117 u118 u119 u120 u121 u122 u123 u124 u125 u126 u127 u128 u129 u130 u131 u132 u133 u134 u135 u136 u137 u138 u139 u140 u141 u142 u143 u144 u145 u146 u147 u148 u149 u150 u151 u152 u153 u154 u155 u156 u157 u158 u159 u160 u161 u162 u163 u164 u165 u166 v4 v23 w' ms' e1 e2 e3
        subst e1
        dsimp only
        go_wp2_with fail
        go_roundg (gk - 1)
        case measure => have := NK.out.2; omega
        case rel => exact ⟨i + 1, ms', rfl, ⟨NK.out.1⟩, ⟨e2⟩, ⟨e3⟩⟩
      by_cases hk3 : ok_ = 3
      · refine np_3in hi H60.out HL.out N4.out y0 y1 y2 l2 g2 hfp hk0 hk1 hk2 hk3 hth hlt ?_
        intro u2 u6 u7 u8 u9 u10 u11 u12 u24 u25 u26 u27 u28 u29 u30 u31 u32 u33 u34 u35 u36 u37 u38 u39 u40 u41 u42 u43 u44 u45 u46 u47 u48 u49 u50 u51 u52 u53 u54 u55 u56 u57 u58 u59 u60 u61 u62 u63 u64 u65 u66 u67 u68 u69 u70 u71 u72 u73 u74 u75 u76 u77 u78 u79 u80 u81 u82 u83 u84 u85 u86 u87 u88 u89 u90 u91 u92 u93 u94 u95 u96 u97 u98 u99 u100 u101 u102 u103 u104 u105 u106 u107 u108 u109 u110 u111 u112 u113 u114 u115 u116 u117 u118 u119 u120 u121 u122 u123 u124 u125 u126 u127 u128 u129 u130 u131 u132 u133 u134 u135 u136 u137 u138 u139 u140 u141 u142 u143 u144 u145 u146 u147 u148 u149 u150 u151 u152 u153 u154 u155 u156 u157 u158 u159 u160 u161 u162 u163 u164 u165 u166 v4 v23 w' ms' e1 e2 e3
        subst e1
        dsimp only
        go_wp2_with fail
        go_roundg (gk - 1)
        case measure => have := NK.out.2; omega
        case rel => exact ⟨i + 1, ms', rfl, ⟨NK.out.1⟩, ⟨e2⟩, ⟨e3⟩⟩
      refine np_4in hi H60.out HL.out N4.out y0 y1 y2 l2 g2 hfp hk0 hk1 hk2 hk3 hth hlt ?_
      intro u2 u6 u7 u8 u9 u10 u11 u12 u24 u25 u26 u27 u28 u29 u30 u31 u32 u33 u34 u35 u36 u37 u38 u39 u40 u41 u42 u43 u44 u45 u46 u47 u48 u49 u50 u51 u52 u53 u54 u55 u56 u57 u58 u59 u60 u61 u62 u63 u64 u65 u66 u67 u68 u69 u70 u71 u72 u73 u74 u75 u76 u77 u78 u79 u80 u81 u82 u83 u84 u85 u86 u87 u88 u89 u90 u91 u92 u93 u94 u95 u96 u97 u98 u99 u100 u101 u102 u103 u104 u105 u106 u107 u108 u109 u110 u111 u112 u113 u114 u115 u116 u117 u118 u119 u120 u121 u122 u123 u124 u125 u126 u127 u128 u129 u130 u131 u132 u133 u134 u135 u136 u137 u138 u139 u140 u141 u142 u143 u144 u145 u146 u147 u148 u149 u150 u151 u152 u153 u154 u155 u156 u157 u158 u159 u160 u161 u162 u163 u164 u165 u166 v4 v23 w' ms' e1 e2 e3
      subst e1
      dsimp only
      go_wp2_with fail
      go_roundg (gk - 1)
      case measure => have := NK.out.2; omega
      case rel => exact ⟨i + 1, ms', rfl, ⟨NK.out.1⟩, ⟨e2⟩, ⟨e3⟩⟩
    have d1 : decide ((i : Int) < (l0.length : Int)) = false := decide_eq_false (by omega)
    have d2 : decide (i < l0.length) = false := decide_eq_false hi
    have d3 : (i < l0.length) = False := eq_false hi
    have HLM := Aside0.mk (show ms.length ≤ 3000 by have := HL.out; have := HI.out; have := H60.out; omega)
    have N6 := Aside0.mk N4.out
    clear hi HI HL N4
    generalize wr = w6 at N6 ⊢
    go_wp2_with fail
    clear d1 d2 d3
    go_loopg [169] (ms.length + 1) (fun kq v169 w' => ∃ (j : Nat), v169 = .int .i64 (j : Int) ∧ Aside0 (j ≤ ms.length ∧ j + kq = ms.length + 1) ∧ Aside0 (Below w6.heap.size w6 w'))
    case atStart => exact ⟨0, rfl, ⟨by omega, by omega⟩, ⟨Below.refl _ _⟩⟩
    case round =>
      obtain ⟨j, rfl, HI, BW⟩ := hrel
      have N5 := Aside0.mk (N6.out.below BW.out)
      by_cases hj : j < ms.length
      · have d1 : decide ((j : Int) < (ms.length : Int)) = true := decide_eq_true (by omega)
        have d2 : decide (j < ms.length) = true := decide_eq_true hj
        have d3 : (j < ms.length) = True := eq_true hj
        have HJ := Aside0.mk hj
        have hj0 : (0 : Int) ≤ (j : Int) := by omega
        have hj1 : (j : Int) < (ms.length : Int) := by omega
        have j1 := eq_true hj0; have j2 := eq_true hj1; have j3 : decide ((0 : Int) ≤ (j : Int)) = true := decide_eq_true hj0
        have b2 : wrap64 ((j : Int) + 1) = ((j + 1 : Nat) : Int) := by have := HLM.out; unfold wrap64; omega
        have NK := Aside0.mk (nk3_ hj HI.out.2)
        clear hj
        go_wp2_with fail
        refine (net_Look_ok (i := j) N5.out.net HJ.out).mono ?_; rintro x w7 ⟨v, rfl, ⟨v8, v9, rfl, hO, hQ⟩, hb⟩
        have N7 := Aside0.mk (N5.out.below hb); have BW7 := Aside0.mk (below_step BW.out hb)
        have hcc := (MN.C N7.out rfl).2
        obtain ⟨ad, A13, c13, A14, c14, ea, x0, x1, x2, x3, x4, x5, x6, x7, x8, x9, x10, x11, x12, x13, x14, l13, g13, l14, g14⟩ := at_L37 hcc.2 (j : Int) hj0 hj1
        subst ea
        obtain ⟨q, hq⟩ : ∃ q, q = rd_T37 ms (j : Int) := ⟨_, rfl⟩
        have hfit := N7.out.fit _ (at_range37 HJ.out)
        rw [← hq] at x0 x1 x2 x3 x4 x5 x6 x7 x8 x9 x10 x11 x12 x13 x14 l13 g13 l14 g14 hfit
        rw [Int.toNat_natCast] at x0 x1 x2 x3 x4 x5 x6 x7 x8 x9 x10 x11 x12 x13 x14
        rw [← hq] at hO hQ ⊢
        have EX := Aside0.mk (show _ from (⟨x0, x1, x2, x3, x4, x5, x6, x7, x8, x9, x10, x11, x12, x13, x14⟩ : (w7.cell? (ad.add (j * 15)) = some (.int .i64 q.f0)) ∧ (w7.cell? ⟨(ad.add (j * 15)).block, (ad.add (j * 15)).off + 1, none⟩ = some (.int .i64 q.f1)) ∧ (w7.cell? ⟨(ad.add (j * 15)).block, (ad.add (j * 15)).off + 2, none⟩ = some (.int .i64 q.f2)) ∧ (w7.cell? ⟨(ad.add (j * 15)).block, (ad.add (j * 15)).off + 3, none⟩ = some (.int .i64 q.f3)) ∧ (w7.cell? ⟨(ad.add (j * 15)).block, (ad.add (j * 15)).off + 4, none⟩ = some (.int .i64 q.f4.f0)) ∧ (w7.cell? ⟨(ad.add (j * 15)).block, (ad.add (j * 15)).off + 5, none⟩ = some (.int .i64 q.f4.f1.f0)) ∧ (w7.cell? ⟨(ad.add (j * 15)).block, (ad.add (j * 15)).off + 6, none⟩ = some (.int .i64 q.f4.f1.f1)) ∧ (w7.cell? ⟨(ad.add (j * 15)).block, (ad.add (j * 15)).off + 7, none⟩ = some (.int .i64 q.f4.f2)) ∧ (w7.cell? ⟨(ad.add (j * 15)).block, (ad.add (j * 15)).off + 8, none⟩ = some (.int .i64 q.f4.f3)) ∧ (w7.cell? ⟨(ad.add (j * 15)).block, (ad.add (j * 15)).off + 9, none⟩ = some (.int .i64 q.f4.f4)) ∧ (w7.cell? ⟨(ad.add (j * 15)).block, (ad.add (j * 15)).off + 10, none⟩ = some (.int .i64 q.f4.f5)) ∧ (w7.cell? ⟨(ad.add (j * 15)).block, (ad.add (j * 15)).off + 11, none⟩ = some (.int .i64 q.f4.f6)) ∧ (w7.cell? ⟨(ad.add (j * 15)).block, (ad.add (j * 15)).off + 12, none⟩ = some (.bool q.f4.f7)) ∧ (w7.cell? ⟨(ad.add (j * 15)).block, (ad.add (j * 15)).off + 13, none⟩ = some (.slice A13 q.f4.f8.length c13)) ∧ (w7.cell? ⟨(ad.add (j * 15)).block, (ad.add (j * 15)).off + 14, none⟩ = some (.slice A14 q.f4.f9.length c14)))); have G13 := Aside0.mk g13; have G14 := Aside0.mk g14; have FT := Aside0.mk hfit; have HQ := Aside0.mk hq; have HCC := Aside0.mk hcc.1
        clear hcc hq hfit g13 g14 l13 l14 x0 x1 x2 x3 x4 x5 x6 x7 x8 x9 x10 x11 x12 x13 x14
        obtain ⟨A8, c8, e8, l8, hC8⟩ := Kd.R_reads hO; obtain ⟨A9, c9, e9, l9, hC9⟩ := Kd.R_reads hQ; subst e8 e9
        have O8 := Aside0.mk hC8; have Q8 := Aside0.mk hC9
        clear hO hQ hb l8 l9 hC8 hC9
        dsimp only [pkV]
        go_upto_region 41 with (first | ((with_reducible refine gate_dst (N := 14) rfl ?_); refine box_event ?hg (N := 14) ?hd (cs := #[.int .i64 0, .int .i64 0, .int .i64 0, .int .i64 0, .int .i64 0, .int .i64 0, .int .i64 0, .int .i64 0, .int .i64 0, .int .i64 0, .int .i64 0, .int .i64 0, .bool false, .slice none 0 0, .slice none 0 0]) (t := 37) ?hr ?_; (case hd => rfl); (case hg => rfl); (case hr => first | (go_simp; done) | (go_simp; rfl)); intro g8 hg w8m hbox hb; have ZB := Aside0.mk hb; have ZX := Aside0.mk hbox; have X8g := Aside0.mk (show w7.heap.size ≤ g8 from by rw [hg]; exact Nat.le_refl _); have x_zc0 : w8m.cell? ⟨g8, 0, none⟩ = some (.int .i64 0) := (blk_cell ZX.out 0).trans rfl; have x_zf0 := blk_frozen ZX.out 0; have x_zc1 : w8m.cell? ⟨g8, 1, none⟩ = some (.int .i64 0) := (blk_cell ZX.out 1).trans rfl; have x_zf1 := blk_frozen ZX.out 1; have x_zc2 : w8m.cell? ⟨g8, 2, none⟩ = some (.int .i64 0) := (blk_cell ZX.out 2).trans rfl; have x_zf2 := blk_frozen ZX.out 2; have x_zc3 : w8m.cell? ⟨g8, 3, none⟩ = some (.int .i64 0) := (blk_cell ZX.out 3).trans rfl; have x_zf3 := blk_frozen ZX.out 3; have x_zc4 : w8m.cell? ⟨g8, 4, none⟩ = some (.int .i64 0) := (blk_cell ZX.out 4).trans rfl; have x_zf4 := blk_frozen ZX.out 4; have x_zc5 : w8m.cell? ⟨g8, 5, none⟩ = some (.int .i64 0) := (blk_cell ZX.out 5).trans rfl; have x_zf5 := blk_frozen ZX.out 5; have x_zc6 : w8m.cell? ⟨g8, 6, none⟩ = some (.int .i64 0) := (blk_cell ZX.out 6).trans rfl; have x_zf6 := blk_frozen ZX.out 6; have x_zc7 : w8m.cell? ⟨g8, 7, none⟩ = some (.int .i64 0) := (blk_cell ZX.out 7).trans rfl; have x_zf7 := blk_frozen ZX.out 7; have x_zc8 : w8m.cell? ⟨g8, 8, none⟩ = some (.int .i64 0) := (blk_cell ZX.out 8).trans rfl; have x_zf8 := blk_frozen ZX.out 8; have x_zc9 : w8m.cell? ⟨g8, 9, none⟩ = some (.int .i64 0) := (blk_cell ZX.out 9).trans rfl; have x_zf9 := blk_frozen ZX.out 9; have x_zc10 : w8m.cell? ⟨g8, 10, none⟩ = some (.int .i64 0) := (blk_cell ZX.out 10).trans rfl; have x_zf10 := blk_frozen ZX.out 10; have x_zc11 : w8m.cell? ⟨g8, 11, none⟩ = some (.int .i64 0) := (blk_cell ZX.out 11).trans rfl; have x_zf11 := blk_frozen ZX.out 11; have x_zc12 : w8m.cell? ⟨g8, 12, none⟩ = some (.bool false) := (blk_cell ZX.out 12).trans rfl; have x_zf12 := blk_frozen ZX.out 12; have x_zc13 : w8m.cell? ⟨g8, 13, none⟩ = some (.slice none 0 0) := (blk_cell ZX.out 13).trans rfl; have x_zf13 := blk_frozen ZX.out 13; have x_zc14 : w8m.cell? ⟨g8, 14, none⟩ = some (.slice none 0 0) := (blk_cell ZX.out 14).trans rfl; have x_zf14 := blk_frozen ZX.out 14; clear hb hg hbox))
        have NB8 := Aside0.mk (below_setB (below_setB (below_setB (below_setB (below_setB (below_setB (below_setB (below_setB (below_setB (below_setB (below_setB (below_setB (below_setB (below_setB (below_setB ZB.out (p := ⟨g8, 0, none⟩) X8g.out (.int .i64 q.f0)) (p := ⟨g8, 1, none⟩) X8g.out (.int .i64 q.f1)) (p := ⟨g8, 2, none⟩) X8g.out (.int .i64 q.f2)) (p := ⟨g8, 3, none⟩) X8g.out (.int .i64 q.f3)) (p := ⟨g8, 4, none⟩) X8g.out (.int .i64 q.f4.f0)) (p := ⟨g8, 5, none⟩) X8g.out (.int .i64 q.f4.f1.f0)) (p := ⟨g8, 6, none⟩) X8g.out (.int .i64 q.f4.f1.f1)) (p := ⟨g8, 7, none⟩) X8g.out (.int .i64 q.f4.f2)) (p := ⟨g8, 8, none⟩) X8g.out (.int .i64 q.f4.f3)) (p := ⟨g8, 9, none⟩) X8g.out (.int .i64 q.f4.f4)) (p := ⟨g8, 10, none⟩) X8g.out (.int .i64 q.f4.f5)) (p := ⟨g8, 11, none⟩) X8g.out (.int .i64 q.f4.f6)) (p := ⟨g8, 12, none⟩) X8g.out (.bool q.f4.f7)) (p := ⟨g8, 13, none⟩) X8g.out (.slice A8 q.f4.f8.length c8)) (p := ⟨g8, 14, none⟩) X8g.out (.slice A9 q.f4.f9.length c9)); have X8 := Aside0.mk (blk_put (blk_put (blk_put (blk_put (blk_put (blk_put (blk_put (blk_put (blk_put (blk_put (blk_put (blk_put (blk_put (blk_put (blk_put ZX.out 0 (.int .i64 q.f0) (cs' := #[.int .i64 q.f0, .int .i64 0, .int .i64 0, .int .i64 0, .int .i64 0, .int .i64 0, .int .i64 0, .int .i64 0, .int .i64 0, .int .i64 0, .int .i64 0, .int .i64 0, .bool false, .slice none 0 0, .slice none 0 0]) rfl) 1 (.int .i64 q.f1) (cs' := #[.int .i64 q.f0, .int .i64 q.f1, .int .i64 0, .int .i64 0, .int .i64 0, .int .i64 0, .int .i64 0, .int .i64 0, .int .i64 0, .int .i64 0, .int .i64 0, .int .i64 0, .bool false, .slice none 0 0, .slice none 0 0]) rfl) 2 (.int .i64 q.f2) (cs' := #[.int .i64 q.f0, .int .i64 q.f1, .int .i64 q.f2, .int .i64 0, .int .i64 0, .int .i64 0, .int .i64 0, .int .i64 0, .int .i64 0, .int .i64 0, .int .i64 0, .int .i64 0, .bool false, .slice none 0 0, .slice none 0 0]) rfl) 3 (.int .i64 q.f3) (cs' := #[.int .i64 q.f0, .int .i64 q.f1, .int .i64 q.f2, .int .i64 q.f3, .int .i64 0, .int .i64 0, .int .i64 0, .int .i64 0, .int .i64 0, .int .i64 0, .int .i64 0, .int .i64 0, .bool false, .slice none 0 0, .slice none 0 0]) rfl) 4 (.int .i64 q.f4.f0) (cs' := #[.int .i64 q.f0, .int .i64 q.f1, .int .i64 q.f2, .int .i64 q.f3, .int .i64 q.f4.f0, .int .i64 0, .int .i64 0, .int .i64 0, .int .i64 0, .int .i64 0, .int .i64 0, .int .i64 0, .bool false, .slice none 0 0, .slice none 0 0]) rfl) 5 (.int .i64 q.f4.f1.f0) (cs' := #[.int .i64 q.f0, .int .i64 q.f1, .int .i64 q.f2, .int .i64 q.f3, .int .i64 q.f4.f0, .int .i64 q.f4.f1.f0, .int .i64 0, .int .i64 0, .int .i64 0, .int .i64 0, .int .i64 0, .int .i64 0, .bool false, .slice none 0 0, .slice none 0 0]) rfl) 6 (.int .i64 q.f4.f1.f1) (cs' := #[.int .i64 q.f0, .int .i64 q.f1, .int .i64 q.f2, .int .i64 q.f3, .int .i64 q.f4.f0, .int .i64 q.f4.f1.f0, .int .i64 q.f4.f1.f1, .int .i64 0, .int .i64 0, .int .i64 0, .int .i64 0, .int .i64 0, .bool false, .slice none 0 0, .slice none 0 0]) rfl) 7 (.int .i64 q.f4.f2) (cs' := #[.int .i64 q.f0, .int .i64 q.f1, .int .i64 q.f2, .int .i64 q.f3, .int .i64 q.f4.f0, .int .i64 q.f4.f1.f0, .int .i64 q.f4.f1.f1, .int .i64 q.f4.f2, .int .i64 0, .int .i64 0, .int .i64 0, .int .i64 0, .bool false, .slice none 0 0, .slice none 0 0]) rfl) 8 (.int .i64 q.f4.f3) (cs' := #[.int .i64 q.f0, .int .i64 q.f1, .int .i64 q.f2, .int .i64 q.f3, .int .i64 q.f4.f0, .int .i64 q.f4.f1.f0, .int .i64 q.f4.f1.f1, .int .i64 q.f4.f2, .int .i64 q.f4.f3, .int .i64 0, .int .i64 0, .int .i64 0, .bool false, .slice none 0 0, .slice none 0 0]) rfl) 9 (.int .i64 q.f4.f4) (cs' := #[.int .i64 q.f0, .int .i64 q.f1, .int .i64 q.f2, .int .i64 q.f3, .int .i64 q.f4.f0, .int .i64 q.f4.f1.f0, .int .i64 q.f4.f1.f1, .int .i64 q.f4.f2, .int .i64 q.f4.f3, .int .i64 q.f4.f4, .int .i64 0, .int .i64 0, .bool false, .slice none 0 0, .slice none 0 0]) rfl) 10 (.int .i64 q.f4.f5) (cs' := #[.int .i64 q.f0, .int .i64 q.f1, .int .i64 q.f2, .int .i64 q.f3, .int .i64 q.f4.f0, .int .i64 q.f4.f1.f0, .int .i64 q.f4.f1.f1, .int .i64 q.f4.f2, .int .i64 q.f4.f3, .int .i64 q.f4.f4, .int .i64 q.f4.f5, .int .i64 0, .bool false, .slice none 0 0, .slice none 0 0]) rfl) 11 (.int .i64 q.f4.f6) (cs' := #[.int .i64 q.f0, .int .i64 q.f1, .int .i64 q.f2, .int .i64 q.f3, .int .i64 q.f4.f0, .int .i64 q.f4.f1.f0, .int .i64 q.f4.f1.f1, .int .i64 q.f4.f2, .int .i64 q.f4.f3, .int .i64 q.f4.f4, .int .i64 q.f4.f5, .int .i64 q.f4.f6, .bool false, .slice none 0 0, .slice none 0 0]) rfl) 12 (.bool q.f4.f7) (cs' := #[.int .i64 q.f0, .int .i64 q.f1, .int .i64 q.f2, .int .i64 q.f3, .int .i64 q.f4.f0, .int .i64 q.f4.f1.f0, .int .i64 q.f4.f1.f1, .int .i64 q.f4.f2, .int .i64 q.f4.f3, .int .i64 q.f4.f4, .int .i64 q.f4.f5, .int .i64 q.f4.f6, .bool q.f4.f7, .slice none 0 0, .slice none 0 0]) rfl) 13 (.slice A8 q.f4.f8.length c8) (cs' := #[.int .i64 q.f0, .int .i64 q.f1, .int .i64 q.f2, .int .i64 q.f3, .int .i64 q.f4.f0, .int .i64 q.f4.f1.f0, .int .i64 q.f4.f1.f1, .int .i64 q.f4.f2, .int .i64 q.f4.f3, .int .i64 q.f4.f4, .int .i64 q.f4.f5, .int .i64 q.f4.f6, .bool q.f4.f7, .slice A8 q.f4.f8.length c8, .slice none 0 0]) rfl) 14 (.slice A9 q.f4.f9.length c9) (cs' := #[.int .i64 q.f0, .int .i64 q.f1, .int .i64 q.f2, .int .i64 q.f3, .int .i64 q.f4.f0, .int .i64 q.f4.f1.f0, .int .i64 q.f4.f1.f1, .int .i64 q.f4.f2, .int .i64 q.f4.f3, .int .i64 q.f4.f4, .int .i64 q.f4.f5, .int .i64 q.f4.f6, .bool q.f4.f7, .slice A8 q.f4.f8.length c8, .slice A9 q.f4.f9.length c9]) rfl); clear ZB ZX x_zc0 x_zf0 x_zc1 x_zf1 x_zc2 x_zf2 x_zc3 x_zf3 x_zc4 x_zf4 x_zc5 x_zf5 x_zc6 x_zf6 x_zc7 x_zf7 x_zc8 x_zf8 x_zc9 x_zf9 x_zc10 x_zf10 x_zc11 x_zf11 x_zc12 x_zf12 x_zc13 x_zf13 x_zc14 x_zf14; generalize (((((((((((((((w8m.setCell ⟨g8, 0, none⟩ (.int .i64 q.f0)).setCell ⟨g8, 1, none⟩ (.int .i64 q.f1)).setCell ⟨g8, 2, none⟩ (.int .i64 q.f2)).setCell ⟨g8, 3, none⟩ (.int .i64 q.f3)).setCell ⟨g8, 4, none⟩ (.int .i64 q.f4.f0)).setCell ⟨g8, 5, none⟩ (.int .i64 q.f4.f1.f0)).setCell ⟨g8, 6, none⟩ (.int .i64 q.f4.f1.f1)).setCell ⟨g8, 7, none⟩ (.int .i64 q.f4.f2)).setCell ⟨g8, 8, none⟩ (.int .i64 q.f4.f3)).setCell ⟨g8, 9, none⟩ (.int .i64 q.f4.f4)).setCell ⟨g8, 10, none⟩ (.int .i64 q.f4.f5)).setCell ⟨g8, 11, none⟩ (.int .i64 q.f4.f6)).setCell ⟨g8, 12, none⟩ (.bool q.f4.f7)).setCell ⟨g8, 13, none⟩ (.slice A8 q.f4.f8.length c8)).setCell ⟨g8, 14, none⟩ (.slice A9 q.f4.f9.length c9)) = w8 at NB8 X8 ⊢; have N8 := Aside0.mk (N7.out.below NB8.out); have BW8 := Aside0.mk (below_step BW7.out NB8.out); 
        refine start_ (n := 11) (S := fun w' => w'.cell? ⟨g8, 0, none⟩ = some (.int .i64 q.f0) ∧ w'.cell? ⟨g8, 1, none⟩ = some (.int .i64 q.f1) ∧ w'.cell? ⟨g8, 2, none⟩ = some (.int .i64 q.f2) ∧ w'.cell? ⟨g8, 3, none⟩ = some (.int .i64 q.f3) ∧ w'.cell? ⟨g8, 4, none⟩ = some (.int .i64 q.f4.f0) ∧ w'.cell? ⟨g8, 5, none⟩ = some (.int .i64 q.f4.f1.f0) ∧ w'.cell? ⟨g8, 6, none⟩ = some (.int .i64 q.f4.f1.f1) ∧ w'.cell? ⟨g8, 7, none⟩ = some (.int .i64 q.f4.f2) ∧ w'.cell? ⟨g8, 8, none⟩ = some (.int .i64 q.f4.f3) ∧ w'.cell? ⟨g8, 9, none⟩ = some (.int .i64 q.f4.f4) ∧ w'.cell? ⟨g8, 10, none⟩ = some (.int .i64 q.f4.f5) ∧ w'.cell? ⟨g8, 11, none⟩ = some (.int .i64 q.f4.f6) ∧ w'.cell? ⟨g8, 12, none⟩ = some (.bool q.f4.f7) ∧ w'.cell? ⟨g8, 13, none⟩ = some (.slice A8 q.f4.f8.length c8) ∧ w'.cell? ⟨g8, 14, none⟩ = some (.slice A9 q.f4.f9.length c9) ∧ w'.cell? (ad.add (j * 15)) = some (.int .i64 q.f0) ∧ w'.cell? ⟨(ad.add (j * 15)).block, (ad.add (j * 15)).off + 1, none⟩ = some (.int .i64 q.f1) ∧ w'.cell? ⟨(ad.add (j * 15)).block, (ad.add (j * 15)).off + 2, none⟩ = some (.int .i64 q.f2) ∧ w'.cell? ⟨(ad.add (j * 15)).block, (ad.add (j * 15)).off + 3, none⟩ = some (.int .i64 q.f3) ∧ w'.cell? ⟨(ad.add (j * 15)).block, (ad.add (j * 15)).off + 4, none⟩ = some (.int .i64 q.f4.f0) ∧ w'.cell? ⟨(ad.add (j * 15)).block, (ad.add (j * 15)).off + 5, none⟩ = some (.int .i64 q.f4.f1.f0) ∧ w'.cell? ⟨(ad.add (j * 15)).block, (ad.add (j * 15)).off + 6, none⟩ = some (.int .i64 q.f4.f1.f1) ∧ w'.cell? ⟨(ad.add (j * 15)).block, (ad.add (j * 15)).off + 7, none⟩ = some (.int .i64 q.f4.f2) ∧ w'.cell? ⟨(ad.add (j * 15)).block, (ad.add (j * 15)).off + 8, none⟩ = some (.int .i64 q.f4.f3) ∧ w'.cell? ⟨(ad.add (j * 15)).block, (ad.add (j * 15)).off + 9, none⟩ = some (.int .i64 q.f4.f4) ∧ w'.cell? ⟨(ad.add (j * 15)).block, (ad.add (j * 15)).off + 10, none⟩ = some (.int .i64 q.f4.f5) ∧ w'.cell? ⟨(ad.add (j * 15)).block, (ad.add (j * 15)).off + 11, none⟩ = some (.int .i64 q.f4.f6) ∧ w'.cell? ⟨(ad.add (j * 15)).block, (ad.add (j * 15)).off + 12, none⟩ = some (.bool q.f4.f7) ∧ w'.cell? ⟨(ad.add (j * 15)).block, (ad.add (j * 15)).off + 13, none⟩ = some (.slice A13 q.f4.f8.length c13) ∧ w'.cell? ⟨(ad.add (j * 15)).block, (ad.add (j * 15)).off + 14, none⟩ = some (.slice A14 q.f4.f9.length c14)) (ds := [8]) #[false, false, false, false, false, false, false, false, false, false, false] (by kernel_rfl) rfl rfl ⟨(blk_cell (blk_drew X8.out) 0).trans rfl, (blk_cell (blk_drew X8.out) 1).trans rfl, (blk_cell (blk_drew X8.out) 2).trans rfl, (blk_cell (blk_drew X8.out) 3).trans rfl, (blk_cell (blk_drew X8.out) 4).trans rfl, (blk_cell (blk_drew X8.out) 5).trans rfl, (blk_cell (blk_drew X8.out) 6).trans rfl, (blk_cell (blk_drew X8.out) 7).trans rfl, (blk_cell (blk_drew X8.out) 8).trans rfl, (blk_cell (blk_drew X8.out) 9).trans rfl, (blk_cell (blk_drew X8.out) 10).trans rfl, (blk_cell (blk_drew X8.out) 11).trans rfl, (blk_cell (blk_drew X8.out) 12).trans rfl, (blk_cell (blk_drew X8.out) 13).trans rfl, (blk_cell (blk_drew X8.out) 14).trans rfl, cell_bel (w := w7) EX.out.1 (below_drew NB8.out), cell_bel (w := w7) EX.out.2.1 (below_drew NB8.out), cell_bel (w := w7) EX.out.2.2.1 (below_drew NB8.out), cell_bel (w := w7) EX.out.2.2.2.1 (below_drew NB8.out), cell_bel (w := w7) EX.out.2.2.2.2.1 (below_drew NB8.out), cell_bel (w := w7) EX.out.2.2.2.2.2.1 (below_drew NB8.out), cell_bel (w := w7) EX.out.2.2.2.2.2.2.1 (below_drew NB8.out), cell_bel (w := w7) EX.out.2.2.2.2.2.2.2.1 (below_drew NB8.out), cell_bel (w := w7) EX.out.2.2.2.2.2.2.2.2.1 (below_drew NB8.out), cell_bel (w := w7) EX.out.2.2.2.2.2.2.2.2.2.1 (below_drew NB8.out), cell_bel (w := w7) EX.out.2.2.2.2.2.2.2.2.2.2.1 (below_drew NB8.out), cell_bel (w := w7) EX.out.2.2.2.2.2.2.2.2.2.2.2.1 (below_drew NB8.out), cell_bel (w := w7) EX.out.2.2.2.2.2.2.2.2.2.2.2.2.1 (below_drew NB8.out), cell_bel (w := w7) EX.out.2.2.2.2.2.2.2.2.2.2.2.2.2.1 (below_drew NB8.out), cell_bel (w := w7) EX.out.2.2.2.2.2.2.2.2.2.2.2.2.2.2 (below_drew NB8.out)⟩ (fun hHeld => ?_)
        refine pure_ (i := 0) (N := some 177) (v := ?_) (a' := ?_) #[true, false, false, false, false, false, false, false, false, false, false] rfl rfl (by kernel_rfl) (fun _ _ _ h => h) (Or.inl ⟨by rfl, ?_⟩) ?_ ?_
        rotate_left
        · intro w'
          go_simp
          with_reducible rfl
        rotate_left
        · simp only [Act.put, List.setIfInBounds_toArray, List.set_cons_zero, List.set_cons_succ, i64_w, i32_w]
          rfl
        refine pure_ (i := 1) (N := some 178) (v := ?_) (a' := ?_) #[true, true, false, false, false, false, false, false, false, false, false] rfl rfl (by kernel_rfl) (fun _ _ _ h => h) (Or.inl ⟨by rfl, ?_⟩) ?_ ?_
        rotate_left
        · intro w'
          go_simp
          with_reducible rfl
        rotate_left
        · simp only [Act.put, List.setIfInBounds_toArray, List.set_cons_zero, List.set_cons_succ, i64_w, i32_w]
          rfl
        refine pure_ (i := 2) (N := some 179) (v := ?_) (a' := ?_) #[true, true, true, false, false, false, false, false, false, false, false] rfl rfl (by kernel_rfl) (fun _ _ _ h => h) (Or.inl ⟨by rfl, ?_⟩) ?_ ?_
        rotate_left
        · intro w'
          go_simp
          with_reducible rfl
        rotate_left
        · simp only [Act.put, List.setIfInBounds_toArray, List.set_cons_zero, List.set_cons_succ, i64_w, i32_w]
          rfl
        refine pure_ (i := 4) (N := some 181) (v := ?_) (a' := ?_) #[true, true, true, false, true, false, false, false, false, false, false] rfl rfl (by kernel_rfl) (fun _ _ _ h => h) (Or.inl ⟨by rfl, ?_⟩) ?_ ?_
        rotate_left
        · intro w'
          go_simp
          with_reducible rfl
        rotate_left
        · simp only [Act.put, List.setIfInBounds_toArray, List.set_cons_zero, List.set_cons_succ, i64_w, i32_w]
          rfl
        refine pure_ (i := 5) (N := some 182) (v := ?_) (a' := ?_) #[true, true, true, false, true, true, false, false, false, false, false] rfl rfl (by kernel_rfl) (fun _ _ _ h => h) (Or.inl ⟨by rfl, ?_⟩) ?_ ?_
        rotate_left
        · intro w'
          go_simp
          with_reducible rfl
        rotate_left
        · simp only [Act.put, List.setIfInBounds_toArray, List.set_cons_zero, List.set_cons_succ, i64_w, i32_w]
          rfl
        refine pure_ (i := 6) (N := some 183) (v := ?_) (a' := ?_) #[true, true, true, false, true, true, true, false, false, false, false] rfl rfl (by kernel_rfl) (fun _ _ _ h => h) (Or.inl ⟨by rfl, ?_⟩) ?_ ?_
        rotate_left
        · intro w'
          go_simp
          with_reducible rfl
        rotate_left
        · simp only [Act.put, List.setIfInBounds_toArray, List.set_cons_zero, List.set_cons_succ, i64_w, i32_w]
          rfl
        refine take_ (i := 3) (N := some 180) (v := ?_) (a' := ?_) #[true, true, true, true, true, true, true, false, false, false, false] rfl rfl (by kernel_rfl) (fun _ _ _ h => h) (Or.inl ⟨by rfl, ?_⟩) hHeld ?_ ?_
        rotate_left
        · rintro w' ⟨s0, s1, s2, s3, s4, s5, s6, s7, s8, s9, s10, s11, s12, s13, s14, s15, s16, s17, s18, s19, s20, s21, s22, s23, s24, s25, s26, s27, s28, s29⟩
          go_simp
          with_reducible rfl
        rotate_left
        · simp only [Act.put, List.setIfInBounds_toArray, List.set_cons_zero, List.set_cons_succ, i64_w, i32_w]
          rfl
        refine take_ (i := 7) (N := some 184) (v := ?_) (a' := ?_) #[true, true, true, true, true, true, true, true, false, false, false] rfl rfl (by kernel_rfl) (fun _ _ _ h => h) (Or.inl ⟨by rfl, ?_⟩) hHeld ?_ ?_
        rotate_left
        · rintro w' ⟨s0, s1, s2, s3, s4, s5, s6, s7, s8, s9, s10, s11, s12, s13, s14, s15, s16, s17, s18, s19, s20, s21, s22, s23, s24, s25, s26, s27, s28, s29⟩
          go_simp
          with_reducible rfl
        rotate_left
        · simp only [Act.put, List.setIfInBounds_toArray, List.set_cons_zero, List.set_cons_succ, i64_w, i32_w]
          rfl
        refine last_ (i := 8) (N := some 185) #[true, true, true, true, true, true, true, true, true, false, false] rfl rfl (by kernel_rfl) (by decide) (fun K hK => ?_)
        refine goes_ Try.func14 (by kernel_rfl) rfl #[.agg #[.int .i64 q.f0, .int .i64 q.f1, .int .i64 q.f2, .int .i64 q.f3, .int .i64 q.f4.f0, .int .i64 q.f4.f1.f0, .int .i64 q.f4.f1.f1, .int .i64 q.f4.f2, .int .i64 q.f4.f3, .int .i64 q.f4.f4, .int .i64 q.f4.f5, .int .i64 q.f4.f6, .bool q.f4.f7, .slice A8 q.f4.f8.length c8, .slice A9 q.f4.f9.length c9], .agg #[.int .i64 q.f0, .int .i64 q.f1, .int .i64 q.f2, .int .i64 q.f3, .int .i64 q.f4.f0, .int .i64 q.f4.f1.f0, .int .i64 q.f4.f1.f1, .int .i64 q.f4.f2, .int .i64 q.f4.f3, .int .i64 q.f4.f4, .int .i64 q.f4.f5, .int .i64 q.f4.f6, .bool q.f4.f7, .slice A13 q.f4.f8.length c13, .slice A14 q.f4.f9.length c14]] (by rfl) rfl rfl (by simp only [List.map_toArray, List.map_cons, List.map_nil]; rfl) ?_
        with_reducible refine (psame_calls (p := q) (w := w8.drew) (Kd.C_below O8.out (below_drew NB8.out)) (Kd.C_below Q8.out (below_drew NB8.out)) (Kd.C_below G13.out (below_drew N8.out.bel)) (Kd.C_below G14.out (below_drew N8.out.bel)) FT.out).mono ?_
        rintro x w9 ⟨rfl, hb⟩
        refine ⟨_, rfl, ?_⟩
        have BW9 := Aside0.mk (below_step (below_drew BW8.out) hb)
        clear hb
        refine hK.out _ _ ?_
        clear hK K
        refine norm_ (a' := ?_) ?_ ?_
        rotate_left
        · show Act.put _ (some 185) _ = _
          simp only [Act.put, List.setIfInBounds_toArray, List.set_cons_zero, List.set_cons_succ, i64_w, i32_w]
          rfl
        refine pure_ (i := 9) (N := some 186) (v := ?_) (a' := ?_) #[true, true, true, true, true, true, true, true, true, true, false] rfl rfl (by kernel_rfl) (fun _ _ _ h => h) (Or.inl ⟨by rfl, ?_⟩) ?_ ?_
        rotate_left
        · intro w'
          go_simp
          with_reducible rfl
        rotate_left
        · simp only [Act.put, List.setIfInBounds_toArray, List.set_cons_zero, List.set_cons_succ, i64_w, i32_w]
          rfl
        refine pure_ (i := 10) (N := some 187) (v := ?_) (a' := ?_) #[true, true, true, true, true, true, true, true, true, true, true] rfl rfl (by kernel_rfl) (fun _ _ _ h => h) (Or.inl ⟨by rfl, ?_⟩) ?_ ?_
        rotate_left
        · intro w'
          go_simp
          with_reducible rfl
        rotate_left
        · simp only [Act.put, List.setIfInBounds_toArray, List.set_cons_zero, List.set_cons_succ, i64_w, i32_w]
          rfl
        refine done_ (by kernel_rfl) ?_
        go_wp2_with fail
        go_roundg (gk - 1)
        case measure => have := NK.out.2; omega
        case rel => exact ⟨j + 1, by (first | rw [b2] | rfl), ⟨NK.out.1⟩, BW9⟩
      have d1 : decide ((j : Int) < (ms.length : Int)) = false := decide_eq_false (by omega)
      have d2 : decide (j < ms.length) = false := decide_eq_false hj
      have d3 : (j < ms.length) = False := eq_false hj
      clear hj
      go_wp2_with fail
      go_ret
      exact ⟨rfl, N5.out.bel⟩
end Go.Proofs.Ythgdojaildccaaa.Pure
