/- What is asked, by the document; messages of the document. -/
import Derived.Test.YtobhfopgoidniaaGreatJB
set_option linter.all false
set_option linter.unusedVariables false
set_option linter.unusedSimpArgs false

namespace Go.Proofs.YtobhfopgoidniaaGreat
open Go Go.Eng

theorem num139 (n : Int) (g : G) : Ok Tryz.prog 139 [.int .i64 n] g [] (fun v _ => v = tv (.mk 1 .empty n []) ⟨none, 0⟩) := by
  refine fbegin Tryz.func139 rfl Tryz.ntmps139 (Nat.le_of_ble_eq_true rfl) fun C hw hC => ?_
  refine runO hC tabOk 60 ?_
  simp [go_sem]
  repeat ((first | refine condT rfl ?_ | refine condF rfl ?_ | refine skD hC rfl rfl rfl ?_); (refine runO hC tabOk 60 ?_); simp [go_sem])
  refine ret hC tabOk (fun _ => 1) rfl rfl fun m gf hl ex => ?_
  rfl

theorem seal141 (k b : T) (hk hb : Hd) (n : Int) (g : G) (kk : TOk g k hk) (kb : TOk g b hb) : Ok Tryz.prog 141 [tv k hk, .int .i64 n, tv b hb] g [] (fun v g' => TQ (.mk 4 .empty n [k, b]) v g') := by
  refine fbegin Tryz.func141 rfl Tryz.ntmps141 (Nat.le_of_ble_eq_true rfl) fun C hw hC => ?_
  refine runO hC tabOk 60 ?_
  simp [go_sem]
  repeat ((first | refine condT rfl ?_ | refine condF rfl ?_ | refine skD hC rfl rfl rfl ?_); (refine runO hC tabOk 60 ?_); simp [go_sem])
  refine ret hC tabOk (fun _ => 1) rfl rfl fun m gf hl ex => ?_
  exact ⟨⟨some ⟨m.getD 3 0, 0, none⟩, 2⟩, rfl, TsIs.of [(k, hk), (b, hb)] (ex.frz (i := 3) rfl rfl rfl) (by simp only [List.forall_mem_cons]; exact ⟨kk.to, kb.to, by simp⟩), Nat.le_refl _, by simp [maxLen], Nat.zero_le _⟩

theorem msg140 (nm : ByteArray) (l : List T) (h : Hd) (g : G) (k : LOk g l h) (hnm : nm.size ≤ maxLen) (hm : l.length ≤ 2199023255551) : Ok Tryz.prog 140 [.string nm, .slice h.a l.length h.cap] g [] (fun v g' => TQ (listT (ofT nm :: l)) v g') := by
  refine fbegin Tryz.func140 rfl Tryz.ntmps140 (Nat.le_of_ble_eq_true rfl) fun C hw hC => ?_
  refine runO hC tabOk 60 ?_
  simp [go_sem]
  repeat ((first | refine condT rfl ?_ | refine condF rfl ?_ | refine skD hC rfl rfl rfl ?_); (refine runO hC tabOk 60 ?_); simp [go_sem])
  refine call hC [] (by kernel_rfl) rfl rfl rfl rfl rfl fun m1 g1 p1 e1 => ⟨_, of120 nm _, fun v1 u1 q1 s1 hv1 => ?_⟩
  subst hv1
  refine runO hC tabOk 60 ?_
  simp [go_sem]
  repeat ((first | refine condT rfl ?_ | refine condF rfl ?_ | refine skD hC rfl rfl rfl ?_); (refine runO hC tabOk 60 ?_); simp [go_sem])
  refine app hC 99 g.w.heap.size 56 tabOk rfl (.inr rfl) rfl rfl rfl rfl rfl rfl (by kernel_rfl) rfl rfl rfl fun m2 g2 p2 e2 => ?_
  refine ⟨0, [], 1, tc (ofT nm) ⟨none, 0⟩, some ⟨m2.getD 1 0, 0, none⟩, 1, ⟨rfl, .inl ⟨_, rfl, rfl⟩⟩, rfl, Cs.rd (e2.frz (i := 1) rfl rfl rfl), rfl, by have := rowc_one [(ofT nm, ⟨none, 0⟩)]; simpa [rowc] using this, by simp [maxLen], by omega, fun v g3 g4 p3 p4 hv => ?_⟩
  have hv1 : OwnRow g4 g.w.heap.size 99 25 4 v 1 (tc (ofT nm) ⟨none, 0⟩) := by simpa using hv
  obtain ⟨a', cap', rfl, _⟩ := hv1.cs
  refine runO hC tabOk 60 ?_
  simp [go_sem]
  repeat ((first | refine condT rfl ?_ | refine condF rfl ?_ | refine skD hC rfl rfl rfl ?_); (refine runO hC tabOk 60 ?_); simp [go_sem])
  refine app hC 99 g.w.heap.size 56 tabOk rfl (.inr rfl) rfl rfl rfl rfl rfl rfl (by kernel_rfl) rfl rfl rfl fun m5 g5 p5 e5 => ?_
  obtain ⟨hs, ehs, hr, hp⟩ := (k.to (g' := g5)).heads
  have hlen : hs.length = l.length := by rw [← ehs]; simp
  refine ⟨1, _, l.length, rowc hs, h.a, h.cap, hv1.ks Kp.ks (by first | (simp; done) | (simp; omega)), rfl, hr, by rw [rowc_len, hlen], rowc_one hs, by simp [maxLen]; omega, by omega, fun v g6 g7 p6 p7 hv6 => ?_⟩
  refine relab hC 99 0 rfl rfl fun gr pr hwr hor => ?_
  obtain ⟨h', e3, hk'⟩ := LOk.of ((ofT nm, ⟨none, 0⟩) :: hs) ((show OwnRow g7 _ 99 25 4 v (1 + l.length) (rowc ((ofT nm, ⟨none, 0⟩) :: hs)) from hv6).give hwr hor) (by simp [hlen]; omega) (lsc (tok_leaf _ _ _ _ hnm) (fun p hp' => (hp p hp').to))
  subst e3
  simp only [List.map_cons, ehs] at hk'
  have e4 : 1 + l.length = (ofT nm :: l).length := by simp; omega
  rw [e4]
  refine runO hC tabOk 60 ?_
  simp [go_sem]
  repeat ((first | refine condT rfl ?_ | refine condF rfl ?_ | refine skD hC rfl rfl rfl ?_); (refine runO hC tabOk 60 ?_); simp [go_sem])
  refine call hC [] (by kernel_rfl) rfl rfl rfl rfl rfl fun m8 g8 p8 e8 => ⟨_, list121 (ofT nm :: l) h' _, fun v8 u8 q8 s8 hv8 => ?_⟩
  subst hv8
  refine runO hC tabOk 60 ?_
  simp [go_sem]
  repeat ((first | refine condT rfl ?_ | refine condF rfl ?_ | refine skD hC rfl rfl rfl ?_); (refine runO hC tabOk 60 ?_); simp [go_sem])
  refine ret hC tabOk (fun _ => 1) rfl rfl fun m gf hl ex => ?_
  have hk2 := hk'.to (g' := gf)
  exact ⟨h', rfl, hk2.row, hk2.len, hk2.cap, Nat.zero_le _⟩


theorem gask46 (kind target client : ByteArray) (session tgt extra : T) (now nonce till : Int) (hs ht he : Hd) (g : G) (ks : TOk g session hs) (kt : TOk g tgt ht) (ke : TOk g extra he) (h1 : kind.size ≤ maxLen) (h2 : target.size ≤ maxLen) (h3 : client.size ≤ maxLen) :
    Ok Tryz.prog 46 [.string kind, .string target, .string client, tv session hs, tv tgt ht, tv extra he, .int .i64 now, .int .i64 nonce, .int .i64 till] g [] (fun v g' => TQ (gaskS kind target client session tgt extra now nonce till) v g') := by
  refine fbegin Tryz.func46 rfl Tryz.ntmps46 (Nat.le_of_ble_eq_true rfl) fun C hw hC => ?_
  refine runO hC tabOk 60 ?_
  simp [go_sem]
  repeat ((first | refine condT rfl ?_ | refine condF rfl ?_ | refine skD hC rfl rfl rfl ?_); (refine runO hC tabOk 60 ?_); simp [go_sem])
  refine call hC [] (by kernel_rfl) rfl rfl rfl rfl rfl fun m1 g1 p1 e1 => ⟨_, of120 client _, fun v1 u1 q1 s1 hv1 => ?_⟩
  subst hv1
  refine runO hC tabOk 60 ?_
  simp [go_sem]
  repeat ((first | refine condT rfl ?_ | refine condF rfl ?_ | refine skD hC rfl rfl rfl ?_); (refine runO hC tabOk 60 ?_); simp [go_sem])
  refine call hC [] (by kernel_rfl) rfl rfl rfl rfl rfl fun m2 g2 p2 e2 => ⟨_, num139 now _, fun v2 u2 q2 s2 hv2 => ?_⟩
  subst hv2
  refine runO hC tabOk 60 ?_
  simp [go_sem]
  repeat ((first | refine condT rfl ?_ | refine condF rfl ?_ | refine skD hC rfl rfl rfl ?_); (refine runO hC tabOk 60 ?_); simp [go_sem])
  refine call hC [] (by kernel_rfl) rfl rfl rfl rfl rfl fun m3 g3 p3 e3 => ⟨_, num139 nonce _, fun v3 u3 q3 s3 hv3 => ?_⟩
  subst hv3
  refine runO hC tabOk 60 ?_
  simp [go_sem]
  repeat ((first | refine condT rfl ?_ | refine condF rfl ?_ | refine skD hC rfl rfl rfl ?_); (refine runO hC tabOk 60 ?_); simp [go_sem])
  refine call hC [] (by kernel_rfl) rfl rfl rfl rfl rfl fun m4 g4 p4 e4 => ⟨_, of120 kind _, fun v4 u4 q4 s4 hv4 => ?_⟩
  subst hv4
  refine runO hC tabOk 60 ?_
  simp [go_sem]
  repeat ((first | refine condT rfl ?_ | refine condF rfl ?_ | refine skD hC rfl rfl rfl ?_); (refine runO hC tabOk 60 ?_); simp [go_sem])
  refine call hC [] (by kernel_rfl) rfl rfl rfl rfl rfl fun m5 g5 p5 e5 => ⟨_, of120 target _, fun v5 u5 q5 s5 hv5 => ?_⟩
  subst hv5
  refine runO hC tabOk 60 ?_
  simp [go_sem]
  repeat ((first | refine condT rfl ?_ | refine condF rfl ?_ | refine skD hC rfl rfl rfl ?_); (refine runO hC tabOk 60 ?_); simp [go_sem])
  refine call hC [] (by kernel_rfl) rfl rfl rfl rfl rfl fun m6 g6 p6 e6 => ⟨_, list121 [ofT client, numT now, numT nonce, ofT kind, ofT target] ⟨some ⟨m6.getD 4 0, 0, none⟩, 5⟩ _, fun v6 u6 q6 s6 hv6 => ?_⟩
  subst hv6
  have ki : TOk u6 (listT [ofT client, numT now, numT nonce, ofT kind, ofT target]) ⟨some ⟨m6.getD 4 0, 0, none⟩, 5⟩ := ⟨TsIs.of [(ofT client, ⟨none, 0⟩), (numT now, ⟨none, 0⟩), (numT nonce, ⟨none, 0⟩), (ofT kind, ⟨none, 0⟩), (ofT target, ⟨none, 0⟩)] ((e6.frz (i := 4) rfl rfl rfl).to) (lsc (tok_leaf _ _ _ _ h3) (lsc (tok_leaf _ _ _ _ (Nat.zero_le _)) (ls3 (tok_leaf _ _ _ _ (Nat.zero_le _)) (tok_leaf _ _ _ _ h1) (tok_leaf _ _ _ _ h2)))), Nat.le_refl _, by simp [maxLen], Nat.zero_le _⟩
  refine runO hC tabOk 60 ?_
  simp [go_sem]
  repeat ((first | refine condT rfl ?_ | refine condF rfl ?_ | refine skD hC rfl rfl rfl ?_); (refine runO hC tabOk 60 ?_); simp [go_sem])
  refine draw hC [(0, 0), (2, 0), (4, 0), (6, 0), (8, 0), (9, 0), (10, 0), (12, 0), (1, 1), (3, 1), (5, 1), (7, 1), (11, 1)] [13, 14, 15] mix (by kernel_rfl) ?_
  refine runO hC tabOk 60 ?_
  simp [go_sem]
  repeat ((first | refine condT rfl ?_ | refine condF rfl ?_ | refine skD hC rfl rfl rfl ?_); (refine runO hC tabOk 60 ?_); simp [go_sem])
  refine callD hC [] (by kernel_rfl) rfl rfl rfl rfl rfl rfl rfl rfl fun m7 g7 p7 e7 => ⟨_, of120 kind _, fun v7 u7 q7 s7 hv7 => ?_⟩
  subst hv7
  refine runO hC tabOk 60 ?_
  simp [go_sem]
  repeat ((first | refine condT rfl ?_ | refine condF rfl ?_ | refine skD hC rfl rfl rfl ?_); (refine runO hC tabOk 60 ?_); simp [go_sem])
  refine callD hC [] (by kernel_rfl) rfl rfl rfl rfl rfl rfl rfl rfl fun m8 g8 p8 e8 => ⟨_, of120 target _, fun v8 u8 q8 s8 hv8 => ?_⟩
  subst hv8
  refine runO hC tabOk 60 ?_
  simp [go_sem]
  repeat ((first | refine condT rfl ?_ | refine condF rfl ?_ | refine skD hC rfl rfl rfl ?_); (refine runO hC tabOk 60 ?_); simp [go_sem])
  refine callD hC [] (by kernel_rfl) rfl rfl rfl rfl rfl rfl rfl rfl fun m9 g9 p9 e9 => ⟨_, num139 nonce _, fun v9 u9 q9 s9 hv9 => ?_⟩
  subst hv9
  refine runO hC tabOk 60 ?_
  simp [go_sem]
  repeat ((first | refine condT rfl ?_ | refine condF rfl ?_ | refine skD hC rfl rfl rfl ?_); (refine runO hC tabOk 60 ?_); simp [go_sem])
  refine callD hC [] (by kernel_rfl) rfl rfl rfl rfl rfl rfl rfl rfl fun m10 g10 p10 e10 => ⟨_, num139 till _, fun v10 u10 q10 s10 hv10 => ?_⟩
  subst hv10
  refine runO hC tabOk 60 ?_
  simp [go_sem]
  repeat ((first | refine condT rfl ?_ | refine condF rfl ?_ | refine skD hC rfl rfl rfl ?_); (refine runO hC tabOk 60 ?_); simp [go_sem])
  refine callD hC [] (by kernel_rfl) rfl rfl rfl rfl rfl rfl rfl rfl fun m11 g11 p11 e11 => ⟨_, seal141 session (listT [ofT client, numT now, numT nonce, ofT kind, ofT target]) hs ⟨some ⟨m6.getD 4 0, 0, none⟩, 5⟩ 7 _ ks.to ki.to, fun v11 u11 q11 s11 hv11 => ?_⟩
  obtain ⟨hl1, rfl, kl⟩ := hv11
  refine runO hC tabOk 60 ?_
  simp [go_sem]
  repeat ((first | refine condT rfl ?_ | refine condF rfl ?_ | refine skD hC rfl rfl rfl ?_); (refine runO hC tabOk 60 ?_); simp [go_sem])
  refine call hC [] (by kernel_rfl) rfl rfl rfl rfl rfl fun m12 g12 p12 e12 => ?_
  have kk12 : LOk g12 [ofT kind, ofT target, numT nonce, numT till, tgt, sealT session 7 (listT [ofT client, numT now, numT nonce, ofT kind, ofT target]), extra] ⟨some ⟨m12.getD 6 0, 0, none⟩, 7⟩ := ⟨TsIs.of [(ofT kind, ⟨none, 0⟩), (ofT target, ⟨none, 0⟩), (numT nonce, ⟨none, 0⟩), (numT till, ⟨none, 0⟩), (tgt, ht), (sealT session 7 (listT [ofT client, numT now, numT nonce, ofT kind, ofT target]), hl1), (extra, he)] (e12.frz (i := 6) rfl rfl rfl) (lsc (tok_leaf _ _ _ _ h1) (lsc (tok_leaf _ _ _ _ h2) (lsc (tok_leaf _ _ _ _ (Nat.zero_le _)) (lsc (tok_leaf _ _ _ _ (Nat.zero_le _)) (ls3 kt.to kl.to ke.to))))), Nat.le_refl _, by simp [maxLen]⟩
  have hq := msg140 sTgsReq _ _ g12 kk12 (by decide) (by simp)
  refine ⟨_, hq, fun v12 u12 q12 s12 hv12 => ?_⟩
  obtain ⟨hm, rfl, km⟩ := hv12
  refine runO hC tabOk 60 ?_
  simp [go_sem]
  repeat ((first | refine condT rfl ?_ | refine condF rfl ?_ | refine skD hC rfl rfl rfl ?_); (refine runO hC tabOk 60 ?_); simp [go_sem])
  refine ret hC tabOk (fun _ => 1) rfl rfl fun m gf hl ex => ?_
  exact ⟨hm, rfl, km.to⟩
end Go.Proofs.YtobhfopgoidniaaGreat
