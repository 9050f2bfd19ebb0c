/- 'AnnalsExact': the program's histories are the document's -/
import Derived.Test.YtjhnfmfajbghbaaDoorXBS
import Derived.Test.YtjhnfmfajbghbaaDoorXG
set_option linter.unusedSimpArgs false
set_option linter.unusedVariables false
namespace Go.Proofs.YtjhnfmfajbghbaaDoor
open Go.Rex
theorem exact_con : ConOK Tryd.prog lawX (lawPre shX) (lawPostG ss5 shX) := ⟨xG_con.fn, fun ρ ν w h1 h2 h3 => by
  rcases errOf_or (recs mkEv ρ.num 4) with he | he | he
  · exact xG_con.run ρ ν w h1 h2 ⟨h3, he⟩
  · exact xB_con.run ρ ν w h1 h2 ⟨h3, he⟩
  · exact xS_con.run ρ ν w h1 h2 ⟨h3, he⟩⟩
theorem exact_pick {W : World} {al : List Addr} (h : SentOK W [(0, 85, 111), (2, 85, 111), (3, 85, 111), (4, 85, 111), (1, 85, 111), (5, 85, 111), (6, 85, 111), (7, 85, 111), (8, 85, 111), (9, 85, 111), (10, 85, 111)] al) (hn : al.Nodup) (hc : ∀ a ∈ al, ∃ c t, W.heap[a.block]? = some (.cells c t (0, 0))) :
    ∃ al2 : List Addr, SentOK W ss5 al2 ∧ al2.Nodup ∧ ∀ a ∈ al2, ∃ c t, W.heap[a.block]? = some (.cells c t (0, 0)) := by
  match al, h with
  | [a0, a1, a2, a3, a4, a5, a6, a7, a8, a9, a10], h =>
    obtain ⟨h0, v0, h1, v1, h2, v2, h3, v3, h4, v4, -⟩ := h
    refine ⟨[a0, a4, a1, a2, a3], ⟨h0, v0, h4, v4, h1, v1, h2, v2, h3, v3, trivial⟩, ?_, fun a ha => hc a ?_⟩
    · simp only [List.nodup_cons, List.mem_cons, not_or, List.not_mem_nil, not_false_eq_true, and_true] at hn ⊢
      obtain ⟨⟨n01, n02, n03, n04, -⟩, ⟨n12, n13, n14, -⟩, ⟨n23, n24, -⟩, ⟨n34, -⟩, -⟩ := hn
      exact ⟨⟨n04, n01, n02, n03⟩, ⟨Ne.symm n14, Ne.symm n24, Ne.symm n34⟩, ⟨n12, n13⟩, n23, trivial, List.nodup_nil⟩
    · simp only [List.mem_cons, List.not_mem_nil, or_false] at ha ⊢
      rcases ha with rfl | rfl | rfl | rfl | rfl <;> simp
end Go.Proofs.YtjhnfmfajbghbaaDoor
