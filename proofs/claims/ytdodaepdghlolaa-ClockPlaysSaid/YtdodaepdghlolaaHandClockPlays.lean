/-
  ClockPlays, walked by hand: a clock with which anything is done tells just the document's names when they are due.
-/
import Derived.Test.YtdodaepdghlolaaHClockPlays1
import Derived.Test.YtdodaepdghlolaaHClockPlays2
import Derived.Test.YtdodaepdghlolaaHClockPlays3
namespace Go.Proofs.Ytdodaepdghlolaa.Pure
open Go.RowKit Go.Proofs.Ytdodaepdghlolaa.M Go.Proofs.YtdodaepdghlolaaW.PrintWords Go.Proofs.YtdodaepdghlolaaW.PrintLast Go.Proofs.YtdodaepdghlolaaW.PrintMore Go.Proofs.Ytdodaepdghlolaa.Pure
set_option linter.unusedVariables false
set_option linter.unusedSimpArgs false
open Clk
set_option maxHeartbeats 32000000 in
set_option maxRecDepth 100000 in
theorem ClockPlays_hand (A0 : Option Addr) (c0 : Nat) (l0 : List S41) (ask : ByteArray) (w : World) (hr : Kd.C k41 w A0 l0.length l0) (hc : l0.length ≤ c0) (g0 : l0.length * 32 ≤ 140737488351232 ∧ ∀ x ∈ l0, G41 x) (g1 : ask.size ≤ 140737488351232) :
    Calls Try.prog 6 #[.slice A0 l0.length c0, .string ask] w fun e w' => e = .returned (.bool true) ∧ Below w.heap.size w w' := by
  have HR := Aside0.mk hr; have HG := Aside0.mk g0.2; have HAS := Aside0.mk (show ask.size ≤ 9223372036854775807 from Nat.le_trans g1 (by decide))
  clear hr hc g0 g1
  go_enter Try.func6, Try.ntmps6
  go_wp2_with fail
  refine (ticks_calls w).mono ?_
  rintro x w1 ⟨rfl, hb⟩
  have B1 := Aside0.mk hb
  clear hb
  by_cases hu : l0.length > 100
  · have d1 : decide (100 < (l0.length : Int)) = true := decide_eq_true (by omega)
    have d2 : decide (100 < l0.length) = true := decide_eq_true hu
    have d3 : (100 < l0.length) = True := eq_true hu
    clear hu
    go_wp2_with fail
    go_ret
    exact ⟨rfl, B1.out⟩
  have u1 : decide (100 < (l0.length : Int)) = false := decide_eq_false (by omega)
  have u2 : decide (100 < l0.length) = false := decide_eq_false hu
  have u3 : (100 < l0.length) = False := eq_false hu
  have H100 := Aside0.mk (show l0.length ≤ 100 by omega)
  clear hu
  go_wp2_with fail
  refine (new_calls w1).mono ?_
  rintro x w2 ⟨⟨g, rfl, hC⟩, hb⟩
  have C2 := Aside0.mk hC.bnd; have B2 := Aside0.mk hb
  clear hC hb u1 u2 u3
  go_wp2_with (first | ((with_reducible refine gate_dst (N := 6) rfl ?_); refine box_event ?hg (N := 6) ?hd (cs := #[.int .i64 0, .slice none 0 0]) (t := 39) ?hr ?_; (case hd => rfl); (case hg => rfl); (case hr => first | (go_simp; done) | (go_simp; rfl)); intro g6 hg w3 hbox hb; have C3 := Aside0.mk (C2.out.below hb); have X3 := Aside0.mk hbox; have B3 := Aside0.mk (below_step B2.out hb); have G6 := Aside0.mk (show w1.heap.size ≤ g6 from by rw [hg]; exact B2.out.size); have G6b := Aside0.mk (show g6 = w2.heap.size from hg); clear hb hg hbox))
  clear C2 B2
  have R3 := Aside0.mk (show Kd.R k51 51 w3 w1.heap.size (fun _ => False) (.slice none ([] : List Du).length 0) (V []) from Kd.R_nil _ _ _ _ _)
  have J3 := Aside0.mk (show DJ (fun k => w1.heap.size ≤ k ∧ k < w2.heap.size) (fun _ => False) g6 from ⟨fun k _ h => h, fun h => by have := G6b.out; have := h.2; omega, fun h => h⟩)
  go_loopg [28] (l0.length + 1) (fun kq v28 w' => ∃ (i : Nat) (d : List Du) (now turns : Int) (A : Option Addr) (c : Nat) (P Q : Nat → Prop), v28 = .int .i64 (i : Int) ∧ Aside0 (i ≤ l0.length ∧ i + kq = l0.length + 1) ∧ Aside0 (Ck w1.heap.size P w' g now turns d) ∧ Aside0 (Kd.R k51 51 w' w1.heap.size Q (.slice A d.length c) (V d)) ∧ Aside0 (w'.heap[g6]? = some (.cells #[.int .i64 now, .slice A d.length c] 39 (0, 0))) ∧ Aside0 (DJ P Q g6) ∧ Aside0 (St i now turns d) ∧ Aside0 (Below w1.heap.size w1 w'))
  case atStart => exact ⟨0, [], 0, 0, none, 0, _, _, rfl, ⟨by omega, by omega⟩, C3, R3, X3, J3, ⟨⟨by decide, by decide⟩, ⟨by decide, by decide⟩, by decide, fun x hx => by cases hx⟩, B3⟩
  case round =>
    clear C3 R3 X3 J3 B3
    obtain ⟨i, d, now, turns, A, c, P, Q, rfl, HI, CC, RR, X3, JJ, HST, B3⟩ := hrel
    generalize wr = w3 at CC RR X3 B3 ⊢
    by_cases hi : i < l0.length
    rotate_left
    · have d1 : decide ((i : Int) < (l0.length : Int)) = false := decide_eq_false (by omega)
      have d2 : decide (i < l0.length) = false := decide_eq_false hi
      have d3 : (i < l0.length) = False := eq_false hi
      clear hi
      go_wp2_with fail
      go_ret
      exact ⟨rfl, below_step B1.out B3.out⟩
    have NK := Aside0.mk (nkP hi HI.out)
    by_cases hk0 : (rd_T41 l0 (i : Int)).f0 = 0
    · by_cases hbd : (rd_T41 l0 (i : Int)).f1 < 1 ∨ 1099511627776 - now < (rd_T41 l0 (i : Int)).f1
      · refine cp_bad HR HG HAS H100 B1 G6 hi CC RR X3 JJ HST B3 hk0 hbd ⟨?_⟩
        intro u4 u8 u9 u10 u11 u12 u13 u14 u15 u16 u17 u18 u19 u29 u30 u31 u32 u33 u34 u35 u36 u37 u38 u39 u40 u41 u42 u43 u44 u45 u46 u47 u48 u49 u50 u51 u52 u53 u54 u55 u56 u57 u58 u59 u60 u61 u62 u63 u64 u65 u66 u67 u68 u69 u70 u71 u72 u73 u74 u75 u76 u77 u78 u79 u80 u81 u82 u83 u84 u85 u86 u87 u88 u89 u90 u91 u92 u93 u94 u95 u96 u97 u98 u99 u100 u101 u102 u103 u104 u105 u106 u107 u108 u109 u110 u111 u112 u113 u114 u115 u116 u117 u118 u119 u120 u121 u122 u123 u124 u125 u126 u127 u128 u129 u130 u131 u132 u133 u134 u135 u136 u137 u138 u139 u140 u141 u142 u143 u144 u145 u146 u147 u148 u149 v28 w' d' now' turns' A' c' P' Q' e1 e2 e3 e4 e5 e6 e7
        subst e1
        dsimp only
        go_wp2_with fail
        go_roundg (gk - 1)
        case measure => have := NK.out.2; omega
        case rel => exact ⟨i + 1, d', now', turns', A', c', P', Q', rfl, ⟨NK.out.1⟩, ⟨e2⟩, ⟨e3⟩, ⟨e4⟩, ⟨e5⟩, ⟨e6⟩, ⟨e7⟩⟩
      refine cp_set HR HG HAS H100 B1 G6 hi CC RR X3 JJ HST B3 hk0 hbd ⟨?_⟩
      intro u4 u8 u9 u10 u11 u12 u13 u14 u15 u16 u17 u18 u19 u29 u30 u31 u32 u33 u34 u35 u36 u37 u38 u39 u40 u41 u42 u43 u44 u45 u46 u47 u48 u49 u50 u51 u52 u53 u54 u55 u56 u57 u58 u59 u60 u61 u62 u63 u64 u65 u66 u67 u68 u69 u70 u71 u72 u73 u74 u75 u76 u77 u78 u79 u80 u81 u82 u83 u84 u85 u86 u87 u88 u89 u90 u91 u92 u93 u94 u95 u96 u97 u98 u99 u100 u101 u102 u103 u104 u105 u106 u107 u108 u109 u110 u111 u112 u113 u114 u115 u116 u117 u118 u119 u120 u121 u122 u123 u124 u125 u126 u127 u128 u129 u130 u131 u132 u133 u134 u135 u136 u137 u138 u139 u140 u141 u142 u143 u144 u145 u146 u147 u148 u149 v28 w' d' now' turns' A' c' P' Q' e1 e2 e3 e4 e5 e6 e7
      subst e1
      dsimp only
      go_wp2_with fail
      go_roundg (gk - 1)
      case measure => have := NK.out.2; omega
      case rel => exact ⟨i + 1, d', now', turns', A', c', P', Q', rfl, ⟨NK.out.1⟩, ⟨e2⟩, ⟨e3⟩, ⟨e4⟩, ⟨e5⟩, ⟨e6⟩, ⟨e7⟩⟩
    by_cases hk1 : (rd_T41 l0 (i : Int)).f0 = 1
    · refine cp_drop HR HG HAS H100 B1 G6 hi CC RR X3 JJ HST B3 hk1 ⟨?_⟩
      intro u4 u8 u9 u10 u11 u12 u13 u14 u15 u16 u17 u18 u19 u29 u30 u31 u32 u33 u34 u35 u36 u37 u38 u39 u40 u41 u42 u43 u44 u45 u46 u47 u48 u49 u50 u51 u52 u53 u54 u55 u56 u57 u58 u59 u60 u61 u62 u63 u64 u65 u66 u67 u68 u69 u70 u71 u72 u73 u74 u75 u76 u77 u78 u79 u80 u81 u82 u83 u84 u85 u86 u87 u88 u89 u90 u91 u92 u93 u94 u95 u96 u97 u98 u99 u100 u101 u102 u103 u104 u105 u106 u107 u108 u109 u110 u111 u112 u113 u114 u115 u116 u117 u118 u119 u120 u121 u122 u123 u124 u125 u126 u127 u128 u129 u130 u131 u132 u133 u134 u135 u136 u137 u138 u139 u140 u141 u142 u143 u144 u145 u146 u147 u148 u149 v28 w' d' now' turns' A' c' P' Q' e1 e2 e3 e4 e5 e6 e7
      subst e1
      dsimp only
      go_wp2_with fail
      go_roundg (gk - 1)
      case measure => have := NK.out.2; omega
      case rel => exact ⟨i + 1, d', now', turns', A', c', P', Q', rfl, ⟨NK.out.1⟩, ⟨e2⟩, ⟨e3⟩, ⟨e4⟩, ⟨e5⟩, ⟨e6⟩, ⟨e7⟩⟩
    by_cases hk2 : (rd_T41 l0 (i : Int)).f0 = 2
    · refine cp_tick HR HG HAS H100 B1 G6 hi CC RR X3 JJ HST B3 hk2 ⟨?_⟩
      intro u4 u8 u9 u10 u11 u12 u13 u14 u15 u16 u17 u18 u19 u29 u30 u31 u32 u33 u34 u35 u36 u37 u38 u39 u40 u41 u42 u43 u44 u45 u46 u47 u48 u49 u50 u51 u52 u53 u54 u55 u56 u57 u58 u59 u60 u61 u62 u63 u64 u65 u66 u67 u68 u69 u70 u71 u72 u73 u74 u75 u76 u77 u78 u79 u80 u81 u82 u83 u84 u85 u86 u87 u88 u89 u90 u91 u92 u93 u94 u95 u96 u97 u98 u99 u100 u101 u102 u103 u104 u105 u106 u107 u108 u109 u110 u111 u112 u113 u114 u115 u116 u117 u118 u119 u120 u121 u122 u123 u124 u125 u126 u127 u128 u129 u130 u131 u132 u133 u134 u135 u136 u137 u138 u139 u140 u141 u142 u143 u144 u145 u146 u147 u148 u149 v28 w' d' now' turns' A' c' P' Q' e1 e2 e3 e4 e5 e6 e7
      subst e1
      dsimp only
      go_wp2_with fail
      go_roundg (gk - 1)
      case measure => have := NK.out.2; omega
      case rel => exact ⟨i + 1, d', now', turns', A', c', P', Q', rfl, ⟨NK.out.1⟩, ⟨e2⟩, ⟨e3⟩, ⟨e4⟩, ⟨e5⟩, ⟨e6⟩, ⟨e7⟩⟩
    refine cp_else HR HG HAS H100 B1 G6 hi CC RR X3 JJ HST B3 ⟨hk0, hk1, hk2⟩ ⟨?_⟩
    intro u4 u8 u9 u10 u11 u12 u13 u14 u15 u16 u17 u18 u19 u29 u30 u31 u32 u33 u34 u35 u36 u37 u38 u39 u40 u41 u42 u43 u44 u45 u46 u47 u48 u49 u50 u51 u52 u53 u54 u55 u56 u57 u58 u59 u60 u61 u62 u63 u64 u65 u66 u67 u68 u69 u70 u71 u72 u73 u74 u75 u76 u77 u78 u79 u80 u81 u82 u83 u84 u85 u86 u87 u88 u89 u90 u91 u92 u93 u94 u95 u96 u97 u98 u99 u100 u101 u102 u103 u104 u105 u106 u107 u108 u109 u110 u111 u112 u113 u114 u115 u116 u117 u118 u119 u120 u121 u122 u123 u124 u125 u126 u127 u128 u129 u130 u131 u132 u133 u134 u135 u136 u137 u138 u139 u140 u141 u142 u143 u144 u145 u146 u147 u148 u149 v28 w' d' now' turns' A' c' P' Q' e1 e2 e3 e4 e5 e6 e7
    subst e1
    dsimp only
    go_wp2_with fail
    go_roundg (gk - 1)
    case measure => have := NK.out.2; omega
    case rel => exact ⟨i + 1, d', now', turns', A', c', P', Q', rfl, ⟨NK.out.1⟩, ⟨e2⟩, ⟨e3⟩, ⟨e4⟩, ⟨e5⟩, ⟨e6⟩, ⟨e7⟩⟩
end Go.Proofs.Ytdodaepdghlolaa.Pure
