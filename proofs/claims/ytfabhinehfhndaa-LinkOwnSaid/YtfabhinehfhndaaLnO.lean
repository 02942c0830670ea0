/-
  link.Do. (Printed by bin/linkDo.py.)
-/
import Derived.Test.YtfabhinehfhndaaLnD
import Derived.Test.YtfabhinehfhndaaLnW
set_option linter.unusedVariables false
set_option linter.unusedSimpArgs false
namespace Go.Proofs.Ytfabhinehfhndaa
open Go.RowKit

theorem LnO_zv_api_Link : Zv Try.prog 55 (.agg #[.int .i64 0, .slice none 0 0, .int .i64 0, .int .i64 0, .slice none 0 0, .slice none 0 0, .slice none 0 0, .slice none 0 0]) := fun _ => by kernel_rfl
theorem LnO_ag_api_Link : Ag Try.prog 55 true := fun _ => by kernel_rfl
theorem LnO_sz_api_Link : Sz Try.prog 55 8 := fun _ => by kernel_rfl
theorem LnO_en_link_own : Enters Try.prog 58 := en Try.func58 (by kernel_rfl) (by kernel_rfl)
theorem LnO_en_link_Check : Enters Try.prog 30 := en Try.func30 (by kernel_rfl) (by kernel_rfl)
theorem LnO_ag_api_Event : Ag Try.prog 60 true := fun _ => by kernel_rfl
theorem LnO_sz_api_Event : Sz Try.prog 60 4 := fun _ => by kernel_rfl
theorem LnO_en_link_do : Enters Try.prog 59 := en Try.func59 (by kernel_rfl) (by kernel_rfl)
theorem info_err : (Try.prog.info? 35).map (fun i => (i.zero, i.size, i.bytes)) = some (some (.int .i64 0), 1, 8) := by kernel_rfl
/-- A link that is the call's own, what is held being maybe a tail. -/
structure LTop (w : World) (Z : Nat) (a : Lnk.At) (L : Lnk) : Prop where
  S : repS.SOwn 9 16 w Z (Rep.blkOf a.S) a.S a.s L.sent
  W : repI.SOwn 3 8 w Z (Rep.blkOf a.W) a.W a.w L.way
  K : repI.SOwn 3 8 w Z (Rep.blkOf a.K) a.K a.k L.acks
  G : repS.SOwn 9 16 w Z (Rep.blkOf a.G) a.G a.g L.got
  H : TOwn w Z a.H a.h L.held
  dWS : ∀ q ∈ Rep.blkOf a.W, q ∈ Rep.blkOf a.S → False
  dKS : ∀ q ∈ Rep.blkOf a.K, q ∈ Rep.blkOf a.S → False
  dKW : ∀ q ∈ Rep.blkOf a.K, q ∈ Rep.blkOf a.W → False
  dGS : ∀ q ∈ Rep.blkOf a.G, q ∈ Rep.blkOf a.S → False
  dGW : ∀ q ∈ Rep.blkOf a.G, q ∈ Rep.blkOf a.W → False
  dGK : ∀ q ∈ Rep.blkOf a.G, q ∈ Rep.blkOf a.K → False
  dHS : ∀ q ∈ Rep.blkOf a.H, q ∈ Rep.blkOf a.S → False
  dHW : ∀ q ∈ Rep.blkOf a.H, q ∈ Rep.blkOf a.W → False
  dHK : ∀ q ∈ Rep.blkOf a.H, q ∈ Rep.blkOf a.K → False
  dHG : ∀ q ∈ Rep.blkOf a.H, q ∈ Rep.blkOf a.G → False
  nums : okI L.window ∧ okI L.base ∧ okI L.next
section
variable {w w' : World} {Z Z' b : Nat} {a : Lnk.At} {L : Lnk} {S : List Nat} {q : Nat}
theorem LTop.has (h : LTop w Z a L) : Lnk.Has w a L := ⟨h.S.has, h.W.has, h.K.has, h.G.has, h.H.has, h.nums⟩
theorem LTop.mod (h : LTop w Z a L) (m : Mod S w w') (hd : ∀ q ∈ lft a, q ∉ S) : LTop w' Z a L :=
  ⟨h.S.mod m fun q hq => hd q (by simp [lft, hq]), h.W.mod m fun q hq => hd q (by simp [lft, hq]), h.K.mod m fun q hq => hd q (by simp [lft, hq]), h.G.mod m fun q hq => hd q (by simp [lft, hq]), h.H.mod m fun q hq => hd q (by simp [lft, hq]), h.dWS, h.dKS, h.dKW, h.dGS, h.dGW, h.dGK, h.dHS, h.dHW, h.dHK, h.dHG, h.nums⟩
theorem LTop.later (h : LTop w Z a L) (x : Ext w w') : LTop w' Z a L := h.mod (S := []) (Mod.of_ext x) fun _ _ h => by simp at h
theorem TOwn.down {A : Option Addr} {c : Nat} {l : List Int} (h : TOwn w Z A c l) (hz : Z' ≤ Z) : TOwn w Z' A c l := ⟨h.has, fun q hq => ⟨Nat.le_trans hz (h.lt q hq).1, (h.lt q hq).2⟩, h.row⟩
theorem LTop.down (h : LTop w Z a L) (hz : Z' ≤ Z) : LTop w Z' a L := ⟨h.S.down hz, h.W.down hz, h.K.down hz, h.G.down hz, h.H.down hz, h.dWS, h.dKS, h.dKW, h.dGS, h.dGW, h.dGK, h.dHS, h.dHW, h.dHK, h.dHG, h.nums⟩
theorem LTop.lt (h : LTop w Z a L) (hq : q ∈ lft a) : Z ≤ q ∧ q < w.heap.size := by
  rcases lft_or hq with h1 | h1 | h1 | h1 | h1
  · exact h.S.lt q h1
  · exact h.W.lt q h1
  · exact h.K.lt q h1
  · exact h.G.lt q h1
  · exact h.H.lt q h1
theorem LOwn.top (h : LOwn w Z a L) : LTop w Z a L := ⟨h.S, h.W, h.K, h.G, TOwn.of h.H, h.dWS, h.dKS, h.dKW, h.dGS, h.dGW, h.dGK, h.dHS, h.dHW, h.dHK, h.dHG, h.nums⟩
theorem LRes.top (h : LRes w Z b a L) : LTop w Z a L := ⟨h.S, h.W, h.K, h.G, h.H, h.dWS, h.dKS, h.dKW, h.dGS, h.dGW, h.dGK, h.dHS, h.dHW, h.dHK, h.dHG, h.nums⟩
theorem LRes.apart (h : LRes w Z b a L) (hq : q ∈ lft a) : q ≠ b := by
  rcases lft_or hq with h1 | h1 | h1 | h1 | h1
  · exact fun e => h.bS q h1 e
  · exact fun e => h.bW q h1 e
  · exact fun e => h.bK q h1 e
  · exact fun e => h.bG q h1 e
  · exact fun e => h.bH q h1 e
theorem lF_two (h : q ∈ lF b a) (hO : LOwn w Z a L) : q = b ∨ (Z ≤ q ∧ q < w.heap.size) := (List.mem_cons.1 h).imp id fun h => hO.top.lt h
theorem LOwn.later (h : LOwn w Z a L) (x : Ext w w') : LOwn w' Z a L := ⟨h.S.later x, h.W.later x, h.K.later x, h.G.later x, h.H.later x, h.dWS, h.dKS, h.dKW, h.dGS, h.dGW, h.dGK, h.dHS, h.dHW, h.dHK, h.dHG, h.nums⟩
theorem LOwn.mod (h : LOwn w Z a L) (m : Mod S w w') (hd : ∀ q ∈ lft a, q ∉ S) : LOwn w' Z a L :=
  ⟨h.S.mod m fun q hq => hd q (by simp [lft, hq]), h.W.mod m fun q hq => hd q (by simp [lft, hq]), h.K.mod m fun q hq => hd q (by simp [lft, hq]), h.G.mod m fun q hq => hd q (by simp [lft, hq]), h.H.mod m fun q hq => hd q (by simp [lft, hq]), h.dWS, h.dKS, h.dKW, h.dGS, h.dGW, h.dGK, h.dHS, h.dHW, h.dHK, h.dHG, h.nums⟩
theorem LOwn.down (h : LOwn w Z a L) (hz : Z' ≤ Z) : LOwn w Z' a L := ⟨h.S.down hz, h.W.down hz, h.K.down hz, h.G.down hz, h.H.down hz, h.dWS, h.dKS, h.dKW, h.dGS, h.dGW, h.dGK, h.dHS, h.dHW, h.dHK, h.dHG, h.nums⟩
theorem LAt.mk_ (hB : Blk w b (Lnk.cells a L) 55 (0, 0)) (hO : LOwn w Z a L) (hz : Z' ≤ Z) (hb : Z' ≤ b) (hbz : b < Z) : LAt w Z' b a L :=
  ⟨hB, hO.down hz, hb, fun q hq e => by have := (hO.S.lt q hq).1; omega, fun q hq e => by have := (hO.W.lt q hq).1; omega, fun q hq e => by have := (hO.K.lt q hq).1; omega, fun q hq e => by have := (hO.G.lt q hq).1; omega, fun q hq e => by have := (hO.H.lt q hq).1; omega⟩
/-- link.Do. -/
def Lnk.doR (L : Lnk) (x : Evt) : Lnk × Int := if L.chk ≠ 0 then (L, L.chk) else if (L.step x).2 ≠ 0 then (L, (L.step x).2) else ((L.step x).1, 0)
theorem doR_bad {x : Evt} (h : ¬ L.chk = 0) : L.doR x = (L, L.chk) := by unfold Lnk.doR; rw [if_pos h]
theorem doR_no {x : Evt} (h : L.chk = 0) (h2 : ¬ (L.step x).2 = 0) : L.doR x = (L, (L.step x).2) := by unfold Lnk.doR; rw [if_neg (by simpa using h), if_pos h2]
theorem doR_ok {x : Evt} (h : L.chk = 0) (h2 : (L.step x).2 = 0) : L.doR x = ((L.step x).1, 0) := by unfold Lnk.doR; rw [if_neg (by simpa using h), if_neg (by simpa using h2)]
end
set_option maxRecDepth 100000 in
set_option maxHeartbeats 400000 in
theorem lDo_any (a : Lnk.At) (L : Lnk) (x : Evt) (w : World) (hL : Lnk.Has w a L) (hxo : x.ok) :
    Calls Try.prog 31 #[.agg #[.int .i64 L.window, .slice a.S L.sent.length a.s, .int .i64 L.base, .int .i64 L.next, .slice a.W L.way.length a.w, .slice a.K L.acks.length a.k, .slice a.G L.got.length a.g, .slice a.H L.held.length a.h], .agg #[.int .i64 x.kind, .int .i64 x.at_, .bool x.keep, .string x.text]] w (fun e w' => ∃ a', e = .returned (.tuple #[.agg (Lnk.cells a' (L.doR x).1).toArray, .int .i64 (L.doR x).2]) ∧ LTop w' w.heap.size a' (L.doR x).1 ∧ Ext w w') := by
  refine calls_W (n := 26) Try.func31 rfl rfl rfl ?_
  refine sq <| rg <| bx rfl rfl rfl rfl fun w_1 b_2 x_3 l_4 B_5 => ?_
  have q_6 := x_3.size
  have z_1 := Ext.tr (Ext.rf w) x_3
  have q_7 := B_5.lt
  refine bx rfl rfl rfl rfl fun w_8 b_9 x_10 l_11 B_12 => ?_
  have q_13 := x_10.size
  have z_8 := Ext.tr z_1 x_10
  have q_14 := B_12.lt
  refine al rfl LnO_zv_api_Link rfl rfl fun w_15 b_16 x_17 l_18 B_19 => ?_
  have q_20 := x_17.size
  have z_15 := Ext.tr z_8 x_17
  have q_21 := B_19.lt
  refine vl (as_ rfl) rfl <| nl <| nT <| sq <| rg <| ?_
  have B_5 := B_5.later (Ext.tr x_10 x_17)
  refine vl (ld rfl (B_5.all LnO_ag_api_Link LnO_sz_api_Link)) rfl <| ca LnO_en_link_own rfl rfl ((lown_any a L _ (hL.keep z_15)).mono ?_)
  rintro e w_23 ⟨a_22, rfl, HO_22, x_24⟩
  refine ⟨_, rfl, ?_⟩
  have q_25 := x_24.size
  have z_23 := Ext.tr z_15 x_24
  have bdHO_22 := fun q hq => HO_22.top.lt (q := q) hq
  have HO_220 := HO_22
  refine al rfl LnO_zv_api_Link rfl rfl fun w_26 b_27 x_28 l_29 B_30 => ?_
  have q_31 := x_28.size
  have z_26 := Ext.tr z_23 x_28
  have q_32 := B_30.lt
  refine st (new := [.int .i64 L.window, .slice a_22.S L.sent.length a_22.s, .int .i64 L.base, .int .i64 L.next, .slice a_22.W L.way.length a_22.w, .slice a_22.K L.acks.length a_22.k, .slice a_22.G L.got.length a_22.g, .slice a_22.H L.held.length a_22.h]) rfl rfl B_30 rfl LnO_sz_api_Link rfl rfl rfl fun w_33 m_34 B_30 => ?_
  have q_36 := m_34.size
  have z_33 := Ext.mod z_26 m_34 (by simp only [List.mem_singleton, forall_eq]; omega)
  have q_35 := m_34.size
  refine nl <| nT <| sq <| sq <| rg <| ?_
  have B_5 := B_5.later (Ext.tr x_24 x_28)
  have B_5 := B_5.mod m_34 (by simp only [List.mem_singleton]; omega)
  refine vl (ld rfl (B_5.all LnO_ag_api_Link LnO_sz_api_Link)) rfl <| ca LnO_en_link_Check rfl rfl ((lcheck_any a L _ (hL.keep z_33)).mono ?_)
  rintro e w_37 ⟨rfl, x_38⟩
  refine ⟨_, rfl, ?_⟩
  have q_39 := x_38.size
  have z_37 := Ext.tr z_33 x_38
  refine vl (as_ rfl) rfl <| nl <| nT <| sq <| rg <| vl (mv rfl) rfl <| vl (bne rfl rfl) rfl <| nl <| nT <| ?_
  refine cne rfl (fun h_40 => ?_) (fun h_40 => ?_)
  · have hck : ¬ L.chk = 0 := by simpa using h_40
    refine sq <| rg <| ?_
    have B_30 := B_30.later x_38
    refine vl (ld rfl (B_30.all LnO_ag_api_Link LnO_sz_api_Link)) rfl <| vl (mv rfl) rfl <| ?_
    have B_19 := B_19.later (Ext.tr x_24 x_28)
    have B_19 := B_19.mod m_34 (by simp only [List.mem_singleton]; omega)
    have B_19 := B_19.later x_38
    refine st (new := [.int .i64 L.window, .slice a_22.S L.sent.length a_22.s, .int .i64 L.base, .int .i64 L.next, .slice a_22.W L.way.length a_22.w, .slice a_22.K L.acks.length a_22.k, .slice a_22.G L.got.length a_22.g, .slice a_22.H L.held.length a_22.h]) rfl rfl B_19 rfl LnO_sz_api_Link rfl rfl rfl fun w_41 m_42 B_19 => ?_
    have q_44 := m_42.size
    have z_41 := Ext.mod z_37 m_42 (by simp only [List.mem_singleton, forall_eq]; omega)
    have q_43 := m_42.size
    refine vl (as_ rfl) rfl <| nl <| nT <| rt <| tT <| tR (.cell rfl (B_19.all LnO_ag_api_Link LnO_sz_api_Link) (.tmp rfl .nil)) <| ?_
    have HO_22 := HO_22.later x_28
    have HO_22 := HO_22.mod m_34 (fun q hq h => by have e_ := List.mem_singleton.1 h; have := bdHO_22 q hq; omega)
    have HO_22 := HO_22.later x_38
    have HO_22 := HO_22.mod m_42 (fun q hq h => by have e_ := List.mem_singleton.1 h; have := bdHO_22 q hq; omega)
    exact ⟨a_22, by rw [doR_bad hck]; rfl, by rw [doR_bad hck]; exact HO_22.top.down (by omega), z_41⟩
  · have hck : L.chk = 0 := by simpa using h_40
    refine sk <| nT <| sq <| rg <| ?_
    have B_5 := B_5.later x_38
    refine vl (ld rfl (B_5.all LnO_ag_api_Link LnO_sz_api_Link)) rfl <| ca LnO_en_link_own rfl rfl ((lown_any a L _ (hL.keep z_37)).mono ?_)
    rintro e w_46 ⟨a_45, rfl, HO_45, x_47⟩
    refine ⟨_, rfl, ?_⟩
    have q_48 := x_47.size
    have z_46 := Ext.tr z_37 x_47
    have bdHO_45 := fun q hq => HO_45.top.lt (q := q) hq
    have HO_450 := HO_45
    have B_5 := B_5.later x_47
    refine st (new := [.int .i64 L.window, .slice a_45.S L.sent.length a_45.s, .int .i64 L.base, .int .i64 L.next, .slice a_45.W L.way.length a_45.w, .slice a_45.K L.acks.length a_45.k, .slice a_45.G L.got.length a_45.g, .slice a_45.H L.held.length a_45.h]) rfl rfl B_5 rfl LnO_sz_api_Link rfl rfl rfl fun w_49 m_50 B_5 => ?_
    have q_52 := m_50.size
    have z_49 := Ext.mod z_46 m_50 (by simp only [List.mem_singleton, forall_eq]; omega)
    have q_51 := m_50.size
    refine nl <| nT <| sq <| sq <| rg <| ?_
    have B_12 := B_12.later (Ext.tr x_17 (Ext.tr x_24 x_28))
    have B_12 := B_12.mod m_34 (by simp only [List.mem_singleton]; omega)
    have B_12 := B_12.later (Ext.tr x_38 x_47)
    have B_12 := B_12.mod m_50 (by simp only [List.mem_singleton]; omega)
    refine vl (ld rfl (B_12.all LnO_ag_api_Event LnO_sz_api_Event)) rfl <| ?_
    have HO_45 := HO_45.mod m_50 (fun q hq h => by have e_ := List.mem_singleton.1 h; have := bdHO_45 q hq; omega)
    have LA_53 := LAt.mk_ (Z' := w.heap.size) B_5 HO_45 (by omega) (by omega) (by omega)
    refine ca LnO_en_link_do rfl rfl ((ldo_any w b_2 a_45 L x _ z_49 LA_53 hck hxo).mono ?_)
    rintro e w_55 ⟨rfl, HS_53, m_54⟩
    refine ⟨_, rfl, ?_⟩
    have q_56 := m_54.size
    have z_55 := Ext.mod z_49 m_54 (lF_ge LA_53)
    refine vl (as_ rfl) rfl <| nl <| nT <| sq <| rg <| vl (mv rfl) rfl <| vl (bne rfl rfl) rfl <| nl <| nT <| ?_
    refine cne rfl (fun h_57 => ?_) (fun h_57 => ?_)
    · have hst : ¬ (L.step x).2 = 0 := by simpa using h_57
      refine sq <| rg <| ?_
      have B_30 := B_30.later (Ext.tr x_38 x_47)
      have B_30 := B_30.mod m_50 (by simp only [List.mem_singleton]; omega)
      have B_30 := B_30.mod m_54 (fun h => by rcases lF_two h HO_450 with e | e <;> omega)
      refine vl (ld rfl (B_30.all LnO_ag_api_Link LnO_sz_api_Link)) rfl <| vl (mv rfl) rfl <| ?_
      have B_19 := B_19.later (Ext.tr x_24 x_28)
      have B_19 := B_19.mod m_34 (by simp only [List.mem_singleton]; omega)
      have B_19 := B_19.later (Ext.tr x_38 x_47)
      have B_19 := B_19.mod m_50 (by simp only [List.mem_singleton]; omega)
      have B_19 := B_19.mod m_54 (fun h => by rcases lF_two h HO_450 with e | e <;> omega)
      refine st (new := [.int .i64 L.window, .slice a_22.S L.sent.length a_22.s, .int .i64 L.base, .int .i64 L.next, .slice a_22.W L.way.length a_22.w, .slice a_22.K L.acks.length a_22.k, .slice a_22.G L.got.length a_22.g, .slice a_22.H L.held.length a_22.h]) rfl rfl B_19 rfl LnO_sz_api_Link rfl rfl rfl fun w_58 m_59 B_19 => ?_
      have q_61 := m_59.size
      have z_58 := Ext.mod z_55 m_59 (by simp only [List.mem_singleton, forall_eq]; omega)
      have q_60 := m_59.size
      refine vl (as_ rfl) rfl <| nl <| nT <| rt <| tT <| tR (.cell rfl (B_19.all LnO_ag_api_Link LnO_sz_api_Link) (.tmp rfl .nil)) <| ?_
      have HO_22 := HO_22.later x_28
      have HO_22 := HO_22.mod m_34 (fun q hq h => by have e_ := List.mem_singleton.1 h; have := bdHO_22 q hq; omega)
      have HO_22 := HO_22.later (Ext.tr x_38 x_47)
      have HO_22 := HO_22.mod m_50 (fun q hq h => by have e_ := List.mem_singleton.1 h; have := bdHO_22 q hq; omega)
      have HO_22 := HO_22.mod m_54 (fun q hq h => by have := bdHO_22 q hq; rcases lF_two h HO_450 with e | e <;> omega)
      have HO_22 := HO_22.mod m_59 (fun q hq h => by have e_ := List.mem_singleton.1 h; have := bdHO_22 q hq; omega)
      exact ⟨a_22, by rw [doR_no hck hst]; rfl, by rw [doR_no hck hst]; exact HO_22.top.down (by omega), z_58⟩
    · have hst : (L.step x).2 = 0 := by simpa using h_57
      obtain ⟨a9, HR0, HRF⟩ := HS_53 hst
      have HRb := HR0.blk
      have HR := HR0.top
      have bdR : ∀ q ∈ lft a9, q = b_2 ∨ w_37.heap.size ≤ q := fun q hq => (HRF q hq).elim (fun h => (lF_two h HO_450).imp id fun h => h.1) (fun h => .inr (by omega))
      refine sk <| nT <| sq <| rg <| vl (ld rfl (HRb.all LnO_ag_api_Link LnO_sz_api_Link)) rfl <| ?_
      have B_19 := B_19.later (Ext.tr x_24 x_28)
      have B_19 := B_19.mod m_34 (by simp only [List.mem_singleton]; omega)
      have B_19 := B_19.later (Ext.tr x_38 x_47)
      have B_19 := B_19.mod m_50 (by simp only [List.mem_singleton]; omega)
      have B_19 := B_19.mod m_54 (fun h => by rcases lF_two h HO_450 with e | e <;> omega)
      refine st (new := [.int .i64 ((L.step x).1.window), .slice a9.S ((L.step x).1.sent.length) a9.s, .int .i64 ((L.step x).1.base), .int .i64 ((L.step x).1.next), .slice a9.W ((L.step x).1.way.length) a9.w, .slice a9.K ((L.step x).1.acks.length) a9.k, .slice a9.G ((L.step x).1.got.length) a9.g, .slice a9.H ((L.step x).1.held.length) a9.h]) rfl rfl B_19 rfl LnO_sz_api_Link rfl rfl rfl fun w_62 m_63 B_19 => ?_
      have q_65 := m_63.size
      have z_62 := Ext.mod z_55 m_63 (by simp only [List.mem_singleton, forall_eq]; omega)
      have q_64 := m_63.size
      refine vl (as_ rfl) rfl <| nl <| nT <| rt <| tR (.cell rfl (B_19.all LnO_ag_api_Link LnO_sz_api_Link) (.tmp rfl .nil)) <| ?_
      have HR := HR.mod m_63 (fun q hq h => by have e_ := List.mem_singleton.1 h; have := bdR q hq; have := HR0.apart hq; omega)
      exact ⟨a9, by rw [doR_ok hck hst]; rfl, by rw [doR_ok hck hst]; exact HR, z_62⟩
end Go.Proofs.Ytfabhinehfhndaa
