/- What the proof of the statement stands on, part 3. -/
import Derived.Test.YtglcpndffekmhaaA2
import Derived.Test.YtglcpndffekmhaaA0
namespace Go.Y
open Go.Eng (T RepT RepM SRep Kept Base G SameOn VRep Split Live Free kn Owns ownB RootOk ERep HPred)
variable {P : Program} {I : Ids} {φ : FnP} {β : Base} {nt : Nat} {cs : List (Nat × Con)} {tb : Tabs}
variable {all : List Oper} {ah : List (List Nat)} {rs : List (Rec L)} {st : St L}
variable {a b : List (Rec L)} {R : Rec L} {S : Nat → Bool} {o : Oper} {ahd : List Nat} {gd : Option (Gd L)} {σ : St L}
theorem does_of (hop : ∀ β, OpOk P I φ β nt cs ([] : List (Nat × LoopC (St L))) tb) {stc st' : St L} (hd : ∀ d, o.dst = some d → d < nt) (hself : selfOk gd o.dst = true) (h : opS cs tb stc gd o = some st') : ∀ β, Does P I φ β nt o stc gd st' := by
  intro β
  obtain ⟨x, h1, h2⟩ := hop β o stc gd some st' hd hself h
  cases h1
  exact h2
theorem chain_sub {gnv : List (Nat × (Nat × Bool) × AV L)} : ∀ (n : Nat) {l : List Nat} {s : Nat}, s ∈ l → s ∈ chain gnv n l
  | 0, _, _, h => h
  | n + 1, l, s, h => by simp only [chain, List.mem_append]; exact .inl h
theorem fp_slots (all : List Oper) (σ : St L) (o : Oper) {s : Nat} (h : s ∈ slotsOf o.op.operands.toList) : s ∈ (fpOf tb all σ o).sl := chain_sub 8 (List.mem_append_left _ h)
def valS (rs : List (Rec L)) (st : St L) (S : Rec L → Bool) (k : Nat) : Option (Root L) :=
  match lastW (fun R => S R && wks k R) rs with | some R => get R.st.sto k | none => get st.sto k
theorem valS_congr {S S' : Rec L → Bool} {k : Nat} (h : ∀ R ∈ rs, (S R && wks k R) = (S' R && wks k R)) : valS rs st S k = valS rs st S' k := by
  unfold valS; rw [lastW_congr h]
theorem DRun.soft_roots (h : DRun cs tb all ah rs st) (hsw : SoftWr cs tb) (he : rs = a ++ R :: b) (hG : Good cs tb all ah a (foldM a st) R o ahd gd) (hd : Down ah S) (hS0 : S R.i = false) (hah : ∀ j ∈ ahd, S j = true)
    (hS : Sp rs st (fun R => S R.i) σ) {k : Nat} (hk : k ∈ R.f.ks) {r : Root L} (hr : get (foldM a st).sto k = some r) : ∃ r', get σ.sto k = some r' ∧ SoftR r r' := by
  have claim : ∀ (n : Nat) (b1 b2 : List (Rec L)), b1.length = n → b = b1 ++ b2 → ∃ r', valS rs st (fun R' => S R'.i && memN R'.i ((a ++ R :: b1).map (·.i))) k = some r' ∧ SoftR r r' := by
    intro n
    induction n with
    | zero =>
      intro b1 b2 hn hb
      have : b1 = [] := List.eq_nil_of_length_eq_zero hn
      subst this
      refine ⟨r, ?_, .refl r⟩
      rw [valS_congr (S' := fun R' => S R'.i && memN R'.i (a.map (·.i)))]
      · unfold valS
        rw [h.lw_roots he hG hah hk]
        have := (h.canon a (R :: b) he).sto k
        rw [hr] at this
        exact this.symm
      · intro R' hR'
        by_cases hi : R'.i = R.i
        · rw [hi, hS0]; rfl
        · have : memN R'.i ((a ++ [R]).map (·.i)) = memN R'.i (a.map (·.i)) := by
            rw [Bool.eq_iff_iff]
            simp only [memN_iff, List.map_append, List.map_cons, List.map_nil, List.mem_append, List.mem_singleton, hi, or_false]
          simp only [this]
    | succ n ih =>
      intro b1 b2 hn hb
      rcases List.eq_nil_or_concat b1 with rfl | ⟨b1', R', hcc⟩
      · simp at hn
      · rw [List.concat_eq_append] at hcc
        subst hcc
        obtain ⟨r1, h1, h2⟩ := ih b1' (R' :: b2) (by simpa using hn) (by rw [hb]; simp)
        have he' : rs = (a ++ R :: b1') ++ R' :: b2 := by rw [he, hb]; simp
        obtain ⟨hA1, hA2, hA3⟩ := h.inA he'
        have hmem : ∀ R0 : Rec L, R0.i ≠ R'.i → memN R0.i ((a ++ R :: (b1' ++ [R'])).map (·.i)) = memN R0.i ((a ++ R :: b1').map (·.i)) := by
          intro R0 hi
          rw [Bool.eq_iff_iff]
          simp only [memN_iff, List.map_append, List.map_cons, List.map_nil, List.mem_append, List.mem_cons, List.mem_singleton, hi]
          simp
        have hmem' : memN R'.i ((a ++ R :: (b1' ++ [R'])).map (·.i)) = true := memN_iff.2 (List.mem_map.2 ⟨R', by simp, rfl⟩)
        by_cases hw : S R'.i = true ∧ wks k R' = true
        · obtain ⟨hS', hw⟩ := hw
          have hkw := memN_iff.1 hw
          obtain ⟨o', ahd', gd', hG'⟩ := h.good _ R' b2 he'
          have h3 : get (foldM (a ++ R :: b1') st).sto k = some r1 := by
            rw [(h.canon _ (R' :: b2) he').sto, ← h.lw_roots he' hG' (hd _ hS' ahd' hG'.ahead) (wks_ks hkw)]
            exact h1
          have hbR : R' ∈ b := by rw [hb]; simp
          rcases h.later he hd hS0 hbR hS' with h4 | ⟨h4, h5, a', o2, ahd2, gd2, hG2, h6⟩
          · exact absurd hk ((apart_spec h4).2.2 k hkw)
          · have ho : o2 = o' := by have := hG2.op; rw [hG'.op] at this; cases this; rfl
            subst ho
            have hdst : o2.dst ≠ some k := fun e => (apartS_spec h5).2 k (by rw [hG'.dst]; exact e) hk
            obtain ⟨r2, h7, h8⟩ := hsw o2 gd' _ _ h6 hG'.run k r1 hdst (by simp only [cutF, get_keepSto, if_pos (wks_ks hkw)]; exact h3)
            refine ⟨r2, ?_, h2.trans h8⟩
            unfold valS
            rw [lastW_at he' (by simp only [hS', hmem', hw, Bool.and_self]) fun R0 hR0 => ?_]
            · exact h7
            · show ((S R0.i && memN R0.i ((a ++ R :: (b1' ++ [R'])).map (·.i))) && wks k R0) = false
              rw [hmem R0 ((h.notin he').2 R0 hR0), hA3 R0 hR0]; simp
        · refine ⟨r1, ?_, h2⟩
          rw [← h1]
          refine valS_congr fun R0 hR0 => ?_
          by_cases hi : R0.i = R'.i
          · have := h.inj hR0 (by rw [he']; simp) hi
            subst this
            rw [hA2, hmem']
            cases hS' : S R0.i with
            | false => rfl
            | true =>
              cases hw' : wks k R0 with
              | false => rfl
              | true => exact absurd ⟨hS', hw'⟩ hw
          · rw [hmem R0 hi]
  obtain ⟨r', h1, h2⟩ := claim b.length b [] rfl (by simp)
  refine ⟨r', ?_, h2⟩
  rw [hS.sto, ← h1]
  change valS rs st (fun R => S R.i) k = _
  refine valS_congr fun R0 hR0 => ?_
  have : memN R0.i ((a ++ R :: b).map (·.i)) = true := memN_iff.2 (List.mem_map.2 ⟨R0, by rw [← he]; exact hR0, rfl⟩)
  simp only [this, Bool.and_true]
end Go.Y
namespace Go.Y
open Go.Eng (T RepT RepM SRep Kept Base G SameOn VRep Split Live Free kn Owns ownB RootOk ERep HPred)
variable {P : Program} {I : Ids} {φ : FnP} {β : Base} {nt : Nat} {cs : List (Nat × Con)} {tb : Tabs}
variable {ah : List (List Nat)} {rs : List (Rec L)} {st : St L} {ops : Array Oper}
variable {a b : List (Rec L)} {R : Rec L} {S : Nat → Bool} {o : Oper} {ahd : List Nat} {gd : Option (Gd L)} {σ : St L}
theorem relG_less {f : Fp} {g : G} {ac : Act} {w : World} (hR : RelG P I φ β nt σ g ac w) : RelG P I φ β nt ⟨keepEnv f.sl σ.env, keepGnv f.sl σ.gnv, σ.sto⟩ g ac w := by
  refine ⟨hR.defers, hR.size, hR.i.env _ _, fun s x hx => ?_, fun s k b x hx => ?_⟩
  · simp only [get_keepEnv] at hx
    split at hx
    · obtain ⟨u, hu, h⟩ := hR.e s x hx
      exact ⟨u, hu, h.env _ _⟩
    · cases hx
  · rw [mem_keepGnv] at hx
    obtain ⟨u, hu, h, hn⟩ := hR.n s k b x hx.2
    exact ⟨u, hu, fun hk => (h hk).env _ _, hn⟩
theorem wp_of_does {pins : List (Nat × Value)} {Q : Exit → Act → World → Prop} {K : Act → World → Prop} {i : Nat} {stc st' : St L} {g : G} {ac : Act} {w : World}
    (ho : ops[i]? = some o) (hdst : dstOk nt (pins.map (·.1)) o = true) (hR : RelG P I φ β nt stc g ac w) (hp : Pin pins ac) (hg : @guardV L (semL cs) ops.toList stc o.guard = some gd)
    (hD : Does P I φ β nt o stc gd st')
    (hK : ∀ g' ac' w', Pass P I φ stc g w st' g' w' → RelG P I φ β nt st' g' ac' w' → (∀ s, o.dst ≠ some s → ac'.tmps[s]? = ac.tmps[s]?) → Pin pins ac' → K ac' w') : wpOp P ops Q i K ac w := by
  obtain ⟨h2, h3, h4⟩ := wanted_ok hR hg
  unfold wpOp
  rw [ho]
  simp only
  split
  · rename_i hw
    exact .inl (hD.run ac w g hR h2 (h3 hw) _ _ fun ac' w' g' hpass hR' ht => hK g' ac' w' hpass hR' ht (dstOk_pin hdst ht hp))
  · rename_i hw
    obtain ⟨gd', hgd, hoff⟩ := h4 (by simpa using hw)
    obtain ⟨g', hpass, hR'⟩ := hD.skip ac w g gd' hgd hR h2 hoff
    exact hK g' _ w hpass hR' (fun s hs => put_ne ac undef hs) (dstOk_pin hdst (fun s hs => put_ne ac undef hs) hp)
theorem DRun.run_op (hop : ∀ β, OpOk P I φ β nt cs ([] : List (Nat × LoopC (St L))) tb) (hsr : SoftOk P I φ nt cs tb) (hsw : SoftWr cs tb) (hst : StaysOk cs tb)
    {pins : List (Nat × Value)} (hdst : ∀ o ∈ ops.toList, dstOk nt (pins.map (·.1)) o = true) (h : DRun cs tb ops.toList ah rs st) (he : rs = a ++ R :: b) (hG : Good cs tb ops.toList ah a (foldM a st) R o ahd gd)
    (hd : Down ah S) (hS0 : S R.i = false) (hah : ∀ j ∈ ahd, S j = true) (hS : Sp rs st (fun R => S R.i) σ) {g : G} {ac : Act} {w : World} (hR : RelG P I φ β nt σ g ac w) (hp : Pin pins ac)
    {Q : Exit → Act → World → Prop} {K : Act → World → Prop}
    (hK : ∀ σ' g' ac' w', Sp rs st (fun R' => ins S R.i R'.i) σ' → RelG P I φ β nt σ' g' ac' w' → Pin pins ac' → K ac' w') : wpOp P ops Q R.i K ac w := by
  have hl : ∀ R' ∈ b, S R'.i = true → SlotsApart R.f R'.f := fun R' hR' hS' => later_slots (h.later he hd hS0 hR' hS')
  have hkey := h.keys_ok he hS hS0 hl
  have hmg := mergeF_mg hG.sin hkey
  have hstep := h.step he hS hmg (fun R' hR' hS' s hs => (hl R' hR' hS').b s hs) (fun R' hR' hS' k hk hk' => by
    rcases h.later he hd hS0 hR' hS' with h4 | h4
    · exact (apart_spec h4).2.1 k hk (wks_ks hk')
    · rw [hG.soft_wks h4.1] at hk; simp at hk)
  have hop' : ops[R.i]? = some o := by
    have := hG.op
    rw [getL_eq] at this
    rw [← Array.getElem?_toList]
    exact this
  have hdo := hdst o hG.mem
  have hdd := hG.dst
  have hrin : RootsIn R.f (foldM a st) := by rw [hG.fp]; exact fp_roots _ _ _
  have hcl := closed_iff hG.closed
  cases hsoft : R.soft with
  | false =>
    have hAg := h.ag he hG hd hS0 hah hS hsoft
    have hclσ : Closed R.f.ks σ := fun k r c l hk hr hc hcl' => hcl k r c l hk (by rw [← hAg.sto k hk]; exact hr) hc hcl'
    have hrinσ : RootsIn R.f σ := by
      intro s hs x hx k hk
      refine hrin s hs x ?_ k hk
      rcases hx with hx | ⟨kk, hx⟩
      · exact .inl (by rw [← hAg.env s hs]; exact hx)
      · exact .inr ⟨kk, (hAg.gnv s hs (kk, x)).1 hx⟩
    have hcut := cutF_ag hAg
    have hRc := relG_view hcut (relG_part hR hclσ hrinσ)
    refine wp_of_does hop' hdo hRc hp hG.guard (does_of hop (dstOk_lt hdo) hG.self hG.run _) fun g' ac' w' hpass hR' ht hp' => ?_
    obtain ⟨g'', _, h9⟩ := relG_merge hR hclσ (st' := R.st) (g' := g') (a' := ac') (w' := w')
      ⟨fun x u hx => hpass.a x u (arep_view (fun k => hcut.sto k trivial) (hx.env _ _)), hpass.F, hpass.same, hpass.size⟩ hR' hG.sin hkey (fun s hs => ht s (by rw [← hdd]; exact hs)) hmg (fun hw k hk => by
        have h10 : readOnly tb o.op = true ∨ stays (foldM a st) o.op = true := by
          rw [hG.fp] at hw
          simp only [fpOf, Bool.not_eq_false', Bool.or_eq_true] at hw
          exact hw
        have h11 : get R.st.sto k = get (cutF R.f (foldM a st)).sto k := by
          rcases h10 with h10 | h10
          · rw [opS_readOnly h10 hG.run]
          · exact hst o gd _ _ (stays_cut h10 (fun s hs => by rw [hG.fp]; exact fp_slots _ _ _ hs) hrin) hG.run k
        rw [h11, hAg.sto k hk]
        simp only [cutF, get_keepSto, if_pos hk])
    exact hK _ g'' ac' w' hstep h9 hp'
  | true =>
    have hwk := hG.soft_wks hsoft
    have hslot : ∀ s ∈ R.f.sl, get σ.env s = get (foldM a st).env s ∧ ∀ e, (s, e) ∈ σ.gnv ↔ (s, e) ∈ (foldM a st).gnv := by
      intro s hs
      have hc := h.canon a (R :: b) he
      exact ⟨by rw [hS.env, hc.env, h.lw_slots he hG hd hS0 hah hs], fun e => by rw [hS.gnv, hc.gnv, h.lw_slots he hG hd hS0 hah hs]⟩
    have hRl : RelG P I φ β nt ⟨(cutF R.f (foldM a st)).env, (cutF R.f (foldM a st)).gnv, σ.sto⟩ g ac w := by
      have hRl0 := relG_less (f := R.f) hR
      have hag : Ag all1 all1 (⟨keepEnv R.f.sl σ.env, keepGnv R.f.sl σ.gnv, σ.sto⟩ : St L) ⟨(cutF R.f (foldM a st)).env, (cutF R.f (foldM a st)).gnv, σ.sto⟩ := by
        refine ⟨fun s _ => ?_, fun s _ e => ?_, fun k _ => rfl⟩
        · simp only [cutF, get_keepEnv]
          split
          · exact (hslot s ‹_›).1
          · rfl
        · simp only [cutF, mem_keepGnv]
          constructor
          · rintro ⟨h1, h2⟩; exact ⟨h1, ((hslot s h1).2 e).1 h2⟩
          · rintro ⟨h1, h2⟩; exact ⟨h1, ((hslot s h1).2 e).2 h2⟩
      exact relG_view hag hRl0
    obtain ⟨st2, h5, h6, h7⟩ := hsr o gd _ R.st σ.sto (dstOk_lt hdo) hG.self (by rw [← hG.soft]; exact hsoft) hG.run (fun k r hr => by
      simp only [cutF, get_keepSto] at hr
      split at hr
      · exact h.soft_roots hsw he hG hd hS0 hah hS ‹_› hr
      · cases hr)
    have hguard : @guardV L (semL cs) ops.toList ⟨(cutF R.f (foldM a st)).env, (cutF R.f (foldM a st)).gnv, σ.sto⟩ o.guard = some gd := by
      have : ∀ (n d : Nat) (wt : Bool), @guardG L (semL cs) ⟨(cutF R.f (foldM a st)).env, (cutF R.f (foldM a st)).gnv, σ.sto⟩ n d wt = @guardG L (semL cs) (cutF R.f (foldM a st)) n d wt := by
        intro n
        induction n with
        | zero => intro d wt; rfl
        | succ n ih => intro d wt; simp only [guardG, ih]
      rw [← hG.guard]
      unfold guardV
      simp only [this]
    refine wp_of_does hop' hdo hRl hp hguard (h7 β) fun g' ac' w' hpass hR' ht hp' => ?_
    have hv : ∀ k, get st2.sto k = get (mergeF R.f σ R.st).sto k := fun k => by rw [hmg.sto, hwk, h5]; simp
    refine hK _ g' ac' w' hstep ⟨hR'.defers, hR'.size, inv_view hv hR'.i, fun s x hx => ?_, fun s k kb x hx => ?_⟩ hp'
    · rw [hmg.env] at hx
      split at hx
      · rename_i hds
        rw [hdd] at hds
        obtain ⟨u, hu, h8⟩ := hR'.e s x (by rw [(h6 s hds).1]; exact hx)
        exact ⟨u, hu, arep_view hv h8⟩
      · rename_i hds
        obtain ⟨u, hu, h8⟩ := hR.e s x hx
        exact ⟨u, by rw [ht s (by rw [← hdd]; exact hds)]; exact hu, arep_view hv (hpass.a x u (h8.env _ _))⟩
    · rw [hmg.gnv] at hx
      split at hx
      · rename_i hds
        rw [hdd] at hds
        obtain ⟨u, hu, h8, h9⟩ := hR'.n s k kb x (mem_of_get (by rw [(h6 s hds).2]; exact hx.2))
        exact ⟨u, hu, fun hk => arep_view hv (h8 hk), h9⟩
      · rename_i hds
        obtain ⟨u, hu, h8, h9⟩ := hR.n s k kb x hx
        have hk : o.dst ≠ some k := fun e => hkey k (by rw [hdd]; exact e) _ hx rfl
        exact ⟨u, by rw [ht s (by rw [← hdd]; exact hds)]; exact hu, fun hb => arep_view hv (hpass.a x u ((h8 (by rw [← ht k hk]; exact hb)).env _ _)), fun hb => h9 (by rw [← ht k hk]; exact hb)⟩
end Go.Y
namespace Go.Y
open Go.Eng (T RepT RepM SRep Kept Base G SameOn VRep Split Live Free kn Owns ownB RootOk ERep HPred)
variable {P : Program} {I : Ids} {φ : FnP} {β : Base} {nt : Nat} {cs : List (Nat × Con)} {tb : Tabs}
theorem allIn_iff {m : List Nat} : ∀ {l : List Nat}, allIn l m = true ↔ ∀ k ∈ l, k ∈ m
  | [] => by simp [allIn]
  | k :: l => by simp [allIn, allIn_iff (l := l), memN_iff]
theorem mem_addN {j k : Nat} {l : List Nat} : j ∈ addN k l ↔ j ∈ l ∨ j = k := by
  unfold addN
  split
  · rename_i h
    constructor
    · exact .inl
    · rintro (h1 | rfl)
      · exact h1
      · exact memN_iff.1 h
  · simp
theorem mem_unionN {j : Nat} : ∀ {l m : List Nat}, j ∈ unionN l m ↔ j ∈ l ∨ j ∈ m
  | [], m => by simp [unionN]
  | k :: l, m => by
    simp only [unionN, mem_unionN (l := l), mem_addN, List.mem_cons]
    constructor
    · rintro (h | h | h)
      · exact .inl (.inr h)
      · exact .inr h
      · exact .inl (.inl h)
    · rintro ((h | h) | h)
      · exact .inr (.inr h)
      · exact .inl h
      · exact .inr (.inl h)
theorem mem_aheadS {acc : List (List Nat)} {j : Nat} : ∀ {l : List Nat}, j ∈ aheadS acc l ↔ ∃ d ∈ l, j = d ∨ ∃ m, getL acc d = some m ∧ j ∈ m
  | [] => by simp [aheadS]
  | d :: l => by
    simp only [aheadS, mem_addN, mem_unionN, mem_aheadS (l := l), List.mem_cons]
    constructor
    · rintro ((h | ⟨d', h1, h2⟩) | rfl)
      · cases hg : getL acc d with
        | none => rw [hg] at h; simp at h
        | some m => rw [hg] at h; exact ⟨d, .inl rfl, .inr ⟨m, hg, h⟩⟩
      · exact ⟨d', .inr h1, h2⟩
      · exact ⟨j, .inl rfl, .inl rfl⟩
    · rintro ⟨d', rfl | h1, h2⟩
      · rcases h2 with rfl | ⟨m, h3, h4⟩
        · exact .inr rfl
        · exact .inl (.inl (by rw [h3]; exact h4))
      · exact .inl (.inr ⟨d', h1, h2⟩)
def directs (o : Oper) : List Nat := (o.after.toList.filter fun e => Region.binds .any e).map (·.on)
theorem aheadOf_spec : ∀ (ops : List Oper) (acc : List (List Nat)), (∀ i, i < acc.length → (aheadOf acc ops)[i]? = acc[i]?) ∧
    ∀ (i : Nat) o, ops[i]? = some o → ∃ ahd, (aheadOf acc ops)[acc.length + i]? = some ahd ∧ (∀ d ∈ directs o, d ∈ ahd) ∧ ∀ j ∈ ahd, ∃ d ∈ directs o, j = d ∨ ∃ m, (aheadOf acc ops)[d]? = some m ∧ j ∈ m
  | [], acc => ⟨fun i _ => rfl, fun i o h => by simp at h⟩
  | o0 :: ops, acc => by
    have hd : (List.filter (fun e => Region.binds Region.Mode.any e) o0.after.toList).map (·.on) = directs o0 := rfl
    obtain ⟨h1, h2⟩ := aheadOf_spec ops (acc ++ [aheadS acc (directs o0)])
    have hpre : ∀ i, i < acc.length → (aheadOf acc (o0 :: ops))[i]? = acc[i]? := by
      intro i hi
      simp only [aheadOf]
      rw [hd, h1 i (by simp; omega), List.getElem?_append_left hi]
    refine ⟨hpre, fun i o ho => ?_⟩
    cases i with
    | zero =>
      simp only [List.getElem?_cons_zero, Option.some.injEq] at ho
      subst ho
      refine ⟨aheadS acc (directs o0), ?_, fun d hd' => mem_aheadS.2 ⟨d, hd', .inl rfl⟩, fun j hj => ?_⟩
      · simp only [aheadOf]
        rw [hd, h1 _ (by simp)]
        simp
      · obtain ⟨d, h3, h4⟩ := mem_aheadS.1 hj
        refine ⟨d, h3, h4.imp id fun ⟨m, h5, h6⟩ => ⟨m, ?_, h6⟩⟩
        rw [getL_eq] at h5
        rw [hpre d (List.getElem?_eq_some_iff.1 h5).1]
        exact h5
    | succ i =>
      obtain ⟨ahd, h3, h4, h5⟩ := h2 i o (by simpa using ho)
      refine ⟨ahd, ?_, h4, h5⟩
      simp only [aheadOf]
      rw [hd, ← h3]
      congr 1
      simp
      omega
theorem orderOk_spec {ah : List (List Nat)} {n : Nat} : ∀ (l done : List Nat), orderOk ah n l done = true → l.Nodup ∧ (∀ x ∈ l, x ∉ done) ∧
    (∀ a i b, l = a ++ i :: b → ∀ ahd, getL ah i = some ahd → ∀ j ∈ ahd, j ∈ a ∨ j ∈ done) ∧ ∀ i, i < n → i ∈ l ∨ i ∈ done
  | [], done, h => ⟨List.nodup_nil, fun x hx => by simp at hx, fun a i b e => by simp at e, fun i hi => .inr (allIn_iff.1 h i (List.mem_range.2 hi))⟩
  | i :: l, done, h => by
    simp only [orderOk, Bool.and_eq_true, Bool.not_eq_true'] at h
    obtain ⟨h1, h2, h3⟩ := h
    have hi : i ∉ done := fun hm => by rw [memN_iff.2 hm] at h1; cases h1
    obtain ⟨h4, h5, h6, h7⟩ := orderOk_spec l (i :: done) h3
    refine ⟨List.nodup_cons.2 ⟨fun hm => h5 i hm (by simp), h4⟩, fun x hx => ?_, fun a i' b e ahd ha j hj => ?_, fun k hk => ?_⟩
    · rcases List.mem_cons.1 hx with rfl | hx
      · exact hi
      · exact fun hm => h5 x hx (by simp [hm])
    · cases a with
      | nil =>
        simp only [List.nil_append, List.cons.injEq] at e
        obtain ⟨rfl, rfl⟩ := e
        rw [ha] at h2
        exact .inr (allIn_iff.1 h2 j hj)
      | cons x a =>
        simp only [List.cons_append, List.cons.injEq] at e
        obtain ⟨rfl, e⟩ := e
        rcases h6 a i' b e ahd ha j hj with h8 | h8
        · exact .inl (by simp [h8])
        · rcases List.mem_cons.1 h8 with rfl | h8
          · exact .inl (by simp)
          · exact .inr h8
    · rcases h7 k hk with h8 | h8
      · exact .inl (by simp [h8])
      · rcases List.mem_cons.1 h8 with rfl | h8
        · exact .inl (by simp)
        · exact .inr h8
theorem first_not {p : Rec L → Bool} : ∀ {rs : List (Rec L)}, (∀ R ∈ rs, p R = true) ∨ ∃ a R b, rs = a ++ R :: b ∧ (∀ R' ∈ a, p R' = true) ∧ p R = false
  | [] => .inl fun R h => by simp at h
  | R :: rs => by
    cases hp : p R with
    | false => exact .inr ⟨[], R, rs, rfl, fun R' h => by simp at h, hp⟩
    | true =>
      rcases first_not (p := p) (rs := rs) with h | ⟨a, R', b, h1, h2, h3⟩
      · left
        intro R' h'
        rcases List.mem_cons.1 h' with rfl | h'
        · exact hp
        · exact h R' h'
      · refine .inr ⟨R :: a, R', b, by rw [h1]; rfl, ?_, h3⟩
        intro R2 h'
        rcases List.mem_cons.1 h' with rfl | h'
        · exact hp
        · exact h2 R2 h'
def lst (listed : Array Bool) (i : Nat) : Bool := listed.getD i false
theorem lst_set {listed : Array Bool} {i : Nat} (hi : i < listed.size) (j : Nat) : lst (listed.setIfInBounds i true) j = ins (lst listed) i j := by
  unfold lst ins
  simp only [Array.getD_eq_getD_getElem?, Array.getElem?_setIfInBounds]
  by_cases h : i = j
  · subst h; simp [hi]
  · have : Nat.beq j i = false := by
      cases hb : Nat.beq j i with
      | false => rfl
      | true => exact absurd (Nat.eq_of_beq_eq_true hb).symm h
    simp [h, this]
theorem mem_ready {ops : Array Oper} {listed : Array Bool} {i : Nat} (hs : listed.size = ops.size) : i ∈ Region.ready .any ops listed ↔ i < ops.size ∧ lst listed i = false ∧ ∃ o, ops[i]? = some o ∧ ∀ d ∈ directs o, lst listed d = true := by
  unfold Region.ready
  rw [List.mem_filter, List.mem_range]
  constructor
  · rintro ⟨h1, h2⟩
    rw [Bool.and_eq_true] at h2
    have ho : ops[i]? = some ops[i] := Array.getElem?_eq_getElem h1
    refine ⟨h1, ?_, _, ho, fun d hd => ?_⟩
    · have h3 := h2.1
      unfold lst
      simp only [Array.getD_eq_getD_getElem?, Array.getElem?_eq_getElem (show i < listed.size by omega), Option.getD_some, Bool.not_eq_true'] at h3 ⊢
      exact h3
    · have h3 := h2.2
      rw [ho] at h3
      simp only [Option.map_some, Option.getD_some, Array.all_eq_true'] at h3
      obtain ⟨e, he, rfl⟩ := List.mem_map.1 hd
      rw [List.mem_filter] at he
      have := h3 e (by simpa using he.1)
      rw [he.2] at this
      simpa [lst] using this
  · rintro ⟨h1, h2, o, ho, h3⟩
    refine ⟨h1, ?_⟩
    rw [Bool.and_eq_true]
    refine ⟨?_, ?_⟩
    · unfold lst at h2
      simp only [Array.getD_eq_getD_getElem?, Array.getElem?_eq_getElem (show i < listed.size by omega), Option.getD_some, Bool.not_eq_true'] at h2 ⊢
      exact h2
    · rw [ho]
      simp only [Option.map_some, Option.getD_some, Array.all_eq_true']
      intro e he
      cases hb : Region.binds .any e with
      | false => rfl
      | true => exact h3 e.on (List.mem_map.2 ⟨e, List.mem_filter.2 ⟨by simpa using he, hb⟩, rfl⟩)
end Go.Y
namespace Go.Y
open Go.Eng (T RepT RepM SRep Kept Base G SameOn VRep Split Live Free kn Owns ownB RootOk ERep HPred)
variable {P : Program} {I : Ids} {φ : FnP} {β : Base} {nt : Nat} {cs : List (Nat × Con)} {tb : Tabs}
variable {ρ : Type} {ls : List (Nat × LoopC ρ)} {r : ρ} {rs : List (Rec L)} {st : St L} {ops : Array Oper} {pins : List (Nat × Value)}
def todo (listed : Array Bool) : Nat := listed.toList.count false
theorem todo_set {listed : Array Bool} {i : Nat} (hi : i < listed.size) (h : lst listed i = false) : todo (listed.setIfInBounds i true) + 1 = todo listed := by
  have hi' : i < listed.toList.length := by simpa using hi
  have hv : listed.toList[i] = false := by
    unfold lst at h
    simp only [Array.getD_eq_getD_getElem?, Array.getElem?_eq_getElem hi, Option.getD_some] at h
    simpa using h
  unfold todo
  rw [Array.toList_setIfInBounds, List.count_set hi']
  have hpos : 0 < listed.toList.count false := List.count_pos_iff.2 (hv ▸ List.getElem_mem hi')
  rw [hv, if_pos (show (false == false) = true from rfl), if_neg (show ¬ (true == false) = true by decide)]
  omega
theorem any_ok (hop : ∀ β, OpOk P I φ β nt cs ([] : List (Nat × LoopC (St L))) tb) (hsr : SoftOk P I φ nt cs tb) (hsw : SoftWr cs tb) (hst : StaysOk cs tb)
    (hdst : ∀ o ∈ ops.toList, dstOk nt (pins.map (·.1)) o = true) (h : DRun cs tb ops.toList (aheadOf [] ops.toList) rs st) (hord : orderOk (aheadOf [] ops.toList) ops.toList.length (rs.map (·.i)) [] = true)
    {Q : Exit → Act → World → Prop} (hQ : ∀ g ac w, RelG P I φ β nt (foldM rs st) g ac w → Pin pins ac → Q .normal ac w) :
    ∀ (fuel : Nat) (listed : Array Bool) (σ : St L), listed.size = ops.size → todo listed ≤ fuel → Down (aheadOf [] ops.toList) (lst listed) → Sp rs st (fun R => lst listed R.i) σ →
    ∀ g ac w, RelG P I φ β nt σ g ac w → Pin pins ac → wpAny P .any ops Q fuel listed ac w := by
  obtain ⟨_, _, ho3, ho4⟩ := orderOk_spec _ _ hord
  have hsp := (aheadOf_spec ops.toList []).2
  have hlt : ∀ R ∈ rs, R.i < ops.size := by
    intro R hR
    obtain ⟨a, b, he⟩ := List.append_of_mem hR
    obtain ⟨o, ahd, gd, hG⟩ := h.good a R b he
    have := hG.op
    rw [getL_eq, List.getElem?_eq_some_iff] at this
    simpa using this.1
  have hall : ∀ (listed : Array Bool) (σ : St L), (∀ R ∈ rs, lst listed R.i = true) → Sp rs st (fun R => lst listed R.i) σ → ∀ g ac w, RelG P I φ β nt σ g ac w → Pin pins ac → Q .normal ac w := by
    intro listed σ hl hS g ac w hR hp
    have hc := h.canon rs [] (by simp)
    have hS' : Sp rs st (fun R => memN R.i (rs.map (·.i))) σ := hS.congr fun R hR => by
      rw [hl R hR, memN_iff.2 (List.mem_map.2 ⟨R, hR, rfl⟩)]
    exact hQ g ac w (relG_view (hS'.ag hc) hR) hp
  have hnone : ∀ (listed : Array Bool), listed.size = ops.size → Region.ready .any ops listed = [] → ∀ R ∈ rs, lst listed R.i = true := by
    intro listed hs hr
    rcases first_not (p := fun R => lst listed R.i) (rs := rs) with h1 | ⟨a, R, b, he, h1, h2⟩
    · exact h1
    · exfalso
      obtain ⟨o, ahd, gd, hG⟩ := h.good a R b he
      have hRi := hlt R (by rw [he]; simp)
      have hop' : ops.toList[R.i]? = some o := by have := hG.op; rwa [getL_eq] at this
      have hm : R.i ∈ Region.ready .any ops listed := by
        refine (mem_ready hs).2 ⟨hRi, h2, o, by rw [← Array.getElem?_toList]; exact hop', fun d hd => ?_⟩
        obtain ⟨ahd', h3, h4, _⟩ := hsp R.i o hop'
        simp only [List.length_nil, Nat.zero_add] at h3
        have hda := h4 d hd
        rcases ho3 (a.map (·.i)) R.i (b.map (·.i)) (by rw [he]; simp) ahd' (by rw [getL_eq]; exact h3) d hda with h5 | h5
        · obtain ⟨R0, h6, rfl⟩ := List.mem_map.1 h5
          exact h1 R0 h6
        · simp at h5
      rw [hr] at hm
      simp at hm
  intro fuel
  induction fuel with
  | zero =>
    intro listed σ hs ht hd hS g ac w hR hp
    have hl : ∀ i, i < ops.size → lst listed i = true := by
      intro i hi
      cases hb : lst listed i with
      | true => rfl
      | false =>
        have := todo_set (by omega) hb
        omega
    refine ⟨?_, hall listed σ (fun R hR' => hl R.i (hlt R hR')) hS g ac w hR hp⟩
    cases hr : Region.ready .any ops listed with
    | nil => rfl
    | cons i l =>
      have hm : i ∈ Region.ready .any ops listed := by rw [hr]; simp
      obtain ⟨h1, h2, _⟩ := (mem_ready hs).1 hm
      rw [hl i h1] at h2
      cases h2
  | succ fuel ih =>
    intro listed σ hs ht hd hS g ac w hR hp
    refine ⟨fun hr => hall listed σ (hnone listed hs hr) hS g ac w hR hp, fun i hi => ?_⟩
    obtain ⟨h1, h2, o, ho, h3⟩ := (mem_ready hs).1 hi
    have hmem : i ∈ rs.map (·.i) := by
      rcases ho4 i (by simpa using h1) with h4 | h4
      · exact h4
      · simp at h4
    obtain ⟨R, hRm, rfl⟩ := List.mem_map.1 hmem
    obtain ⟨a, b, he⟩ := List.append_of_mem hRm
    obtain ⟨o', ahd, gd, hG⟩ := h.good a R b he
    have hah : ∀ j ∈ ahd, lst listed j = true := by
      intro j hj
      have hop' : ops.toList[R.i]? = some o := by rw [Array.getElem?_toList]; exact ho
      obtain ⟨ahd', h4, _, h5⟩ := hsp R.i o hop'
      simp only [List.length_nil, Nat.zero_add] at h4
      have : ahd' = ahd := by
        have := hG.ahead
        rw [getL_eq, h4] at this
        cases this; rfl
      subst this
      obtain ⟨d, hdd, rfl | ⟨m, h6, h7⟩⟩ := h5 j hj
      · exact h3 _ hdd
      · exact hd d (h3 d hdd) m (by rw [getL_eq]; exact h6) j h7
    have hsz : R.i < listed.size := by omega
    refine h.run_op hop hsr hsw hst hdst he hG hd h2 hah hS hR hp fun σ' g' ac' w' hS' hR' hp' => ?_
    have hls := lst_set hsz
    refine ih _ σ' (by simp [hs]) (by have := todo_set hsz h2; omega) ?_ (hS'.congr fun R0 _ => (hls R0.i).symm) g' ac' w' hR' hp'
    intro i hi ahd2 ha2 j hj
    rw [hls] at hi ⊢
    unfold ins at hi ⊢
    rw [Bool.or_eq_true] at hi ⊢
    rcases hi with hi | hi
    · exact .inl (hd i hi ahd2 ha2 j hj)
    · have := Nat.eq_of_beq_eq_true hi
      subst this
      have h8 := hG.ahead
      rw [ha2] at h8
      cases h8
      exact .inl (hah j hj)
def FreezeOk (P : Program) (I : Ids) (φ : FnP) (β : Base) (nt : Nat) : Prop :=
  ∀ (l : Loc L) (st : St L) g ac w, RelG P I φ β nt st g ac w → ∃ g', RelG P I φ β nt (freezeA st (.ar l)) g' ac w
theorem preFreeze_ok (hfr : FreezeOk P I φ β nt) (all : List Oper) : ∀ (l : List Oper) (st : St L) g ac w, RelG P I φ β nt st g ac w → ∃ g', RelG P I φ β nt (preFreeze all st l) g' ac w
  | [], st, g, ac, w, h => ⟨g, h⟩
  | o :: l, st, g, ac, w, h => by
    unfold preFreeze
    split
    · split
      · obtain ⟨g', h'⟩ := hfr _ st g ac w h
        exact preFreeze_ok hfr all l _ g' ac w h'
      · exact preFreeze_ok hfr all l _ g ac w h
    · exact preFreeze_ok hfr all l _ g ac w h
theorem RelG.drawn {σ : St L} {g : G} {ac : Act} {w : World} (h : RelG P I φ β nt σ g ac w) (n : Nat) (hw : ∀ {σ : St L} {g : G} {w : World}, Inv P I φ β σ g w → Inv P I φ β σ g { w with drawn := n })
    (ha : ∀ {σ : St L} {g : G} {w : World} {x : AV L} {u : Value}, ARep P I φ σ g w x u → ARep P I φ σ g { w with drawn := n } x u) : RelG P I φ β nt σ g ac { w with drawn := n } :=
  ⟨h.defers, h.size, hw h.i, fun s x hx => by obtain ⟨u, h1, h2⟩ := h.e s x hx; exact ⟨u, h1, ha h2⟩, fun s k b x hx => by obtain ⟨u, h1, h2, h3⟩ := h.n s k b x hx; exact ⟨u, h1, fun hk => ha (h2 hk), h3⟩⟩
end Go.Y
namespace Go.Y
open Go.Eng (T RepT RepM SRep Kept Base G SameOn VRep Split Live Free kn Owns ownB RootOk ERep HPred)
variable {P : Program} {I : Ids} {φ : FnP} {β : Base} {nt : Nat} {cs : List (Nat × Con)} {tb : Tabs}
theorem same_drawn (S : Nat → Prop) (w : World) (n : Nat) : SameOn S w { w with drawn := n } := fun b _ _ => rfl
theorem inv_drawn {σ : St L} {g : G} {w : World} (n : Nat) (h : Inv P I φ β σ g w) : Inv P I φ β σ g { w with drawn := n } :=
  ⟨Eng.srep_same (same_drawn _ w n) (Nat.le_refl _) h.s, ⟨h.k.os, h.k.tape, h.k.output, h.k.size, h.k.block, h.k.F, h.k.F', h.k.B⟩, h.c, h.f⟩
theorem arep_drawn {σ : St L} {g : G} {w : World} (n : Nat) (hi : Inv P I φ β σ g w) {x : AV L} {u : Value} (h : ARep P I φ σ g w x u) : ARep P I φ σ g { w with drawn := n } x u := by
  induction h with
  | lf v u h => exact .lf v u (h.mono (same_drawn _ w n) fun _ h => h)
  | zs e a u h => exact .zs e a u h
  | tl v b n' h => exact .tl v b n' (h.mono (same_drawn _ w n) fun _ h => h)
  | ar l u hb h1 => exact .ar l u hb fun hv d e nl xs hat => by rw [Eng.locV_same (same_drawn _ w n) hi.s _ hat]; exact h1 hv d e nl xs hat
  | pt l b o hb h1 => exact .pt l b o hb fun hv ht => by rw [Eng.locA_same (same_drawn _ w n) hi.s _ ht]; exact h1 hv ht
  | fp v b o us hF hc hr => exact .fp v b o us hF (fun j t hj => hc j t hj) fun j t hj => (hr j t hj).mono (same_drawn _ w n) fun _ h => h
  | ag t cs vs us hl hv _ ih => exact .ag t cs vs us hl hv ih
  | tu cs vs us hl hv _ ih => exact .tu cs vs us hl hv ih
  | fn f cs vs us hl hv _ ih => exact .fn f cs vs us hl hv ih
  | u u => exact .u u
theorem relG_drawn {σ : St L} {g : G} {ac : Act} {w : World} (n : Nat) (h : RelG P I φ β nt σ g ac w) : RelG P I φ β nt σ g ac { w with drawn := n } :=
  ⟨h.defers, h.size, inv_drawn n h.i, fun s x hx => by obtain ⟨u, h1, h2⟩ := h.e s x hx; exact ⟨u, h1, arep_drawn n h.i h2⟩,
    fun s k b x hx => by obtain ⟨u, h1, h2, h3⟩ := h.n s k b x hx; exact ⟨u, h1, fun hk => arep_drawn n h.i (h2 hk), h3⟩⟩
theorem freeze_ok (hf : FnsOk φ cs) : FreezeOk P I φ β nt := by
  intro l st g ac w h
  obtain ⟨g', hp, hi, _⟩ := freezeA_ok hf h.i (.ar l)
  have he := freezeA_env (st := st) (.ar l : AV L)
  refine ⟨g', h.defers, h.size, hi, fun s x hx => ?_, fun s k b x hx => ?_⟩
  · rw [he.1] at hx
    obtain ⟨u, h1, h2⟩ := h.e s x hx
    exact ⟨u, h1, hp.a x u h2⟩
  · rw [he.2] at hx
    obtain ⟨u, h1, h2, h3⟩ := h.n s k b x hx
    exact ⟨u, h1, fun hk => hp.a x u (h2 hk), h3⟩
end Go.Y
namespace Go.Y
open Go.Eng (T RepT RepM SRep Kept Base G SameOn VRep Split Live Free kn Owns ownB RootOk ERep HPred)
variable {P : Program} {I : Ids} {φ : FnP} {β : Base} {nt : Nat} {cs : List (Nat × Con)} {tb : Tabs} {ρ : Type} {ls : List (Nat × LoopC ρ)} {pins : List (Nat × Value)}
theorem lst_none (n i : Nat) : lst (Array.replicate n false) i = false := by
  unfold lst
  simp only [Array.getD_eq_getD_getElem?, Array.getElem?_replicate]
  split <;> rfl
theorem draw_ok (hf : FnsOk φ cs) (hmix : P.follows .mixedOrders = true) (hop : ∀ β, OpOk P I φ β nt cs ([] : List (Nat × LoopC (St L))) tb) (hsr : SoftOk P I φ nt cs tb) (hsw : SoftWr cs tb) (hst : StaysOk cs tb) : DrawOk P I φ β nt cs ls tb pins := by
  intro id ops st n r Q hdst hn h g a w hR hp
  simp only [drawK] at h
  split at h
  · rename_i hc
    rw [Bool.and_eq_true] at hc
    obtain ⟨rs, h1, h2, h3⟩ := drawGo_some _ _ _ h
    obtain ⟨g1, hR1⟩ := preFreeze_ok (freeze_ok hf) ops.toList ops.toList st g a w hR
    have hR2 := relG_drawn (w.drawn + 1) hR1
    have hord : orderOk (aheadOf [] ops.toList) ops.toList.length (rs.map (·.i)) [] = true := by rw [h1]; exact hc.1
    have hrun : DRun cs tb ops.toList (aheadOf [] ops.toList) rs (preFreeze ops.toList st ops.toList) := ⟨fun a R b e => by simpa using h3 a R b e, (orderOk_spec _ _ hord).1, hc.2⟩
    refine wp_region_any hmix (any_ok hop hsr hsw hst hdst hrun hord (fun g ac w hR hp => hn _ g ac w h2 hR hp) ops.size _ (preFreeze ops.toList st ops.toList) (by simp) ?_ ?_ ?_ g1 a _ hR2 hp)
    · unfold todo
      simp
    · intro i hi
      rw [lst_none] at hi
      cases hi
    · exact (Sp.start rs _).congr fun R _ => (lst_none _ _).symm
  · cases h
end Go.Y
namespace Go.Y
open RF RAlg
variable {cs : List (Nat × Con)} {ρ σ : Type} {ls : List (Nat × LoopC ρ)} {ls2 : List (Nat × LoopC σ)} {f : σ → Option ρ} {tb : Tabs}
theorem slice_nat {st : St L} {gd : Option (Gd L)} {dst : Option Nat} {rt : TypeId} {t : TypeId} {x : Operand} {lo hi mx : Option Operand} {k : St L → Option ρ} {k2 : St L → Option σ}
    (hret : ∀ x : AV L, retK st gd dst k x = (retK st gd dst k2 x).bind f) (h : ∀ y : AV L, @evalO L (semL cs) tb st (gdKeys gd) t x = some y → ∀ w, sliceK st gd dst k y w = (sliceK st gd dst k2 y w).bind f) :
    @opK L (Option ρ) (semL cs) (semF ρ) (semR ρ cs ls) tb st gd dst rt (.slice t x lo hi mx) k = (@opK L (Option σ) (semL cs) (semF σ) (semR σ cs ls2) tb st gd dst rt (.slice t x lo hi mx) k2).bind f := by
  simp only [opK]
  refine oCase_natE fun y hy => oCase_nat fun _ => ?_
  split
  · split
    · split
      · split
        · exact hret _
        · rfl
      · refine peekK_nat fun _ => ?_
        split
        · split
          · exact hret _
          · rfl
        · rfl
    · rfl
  · refine peekK_nat fun v => ?_
    split
    · rfl
    · refine oCase_nat fun n => ?_
      have hw := h y hy
      cases lo with
      | none => cases hi with
        | none => exact checkIdx_nat (checkIdx_nat (oCase_nat hw))
        | some h =>
          refine oCase_nat fun h => ?_
          cases h with
          | lf h => exact checkIdx_nat (checkIdx_nat (oCase_nat hw))
          | _ => rfl
      | some l =>
        refine oCase_nat fun l => ?_
        cases l with
        | lf l => cases hi with
          | none => exact checkIdx_nat (checkIdx_nat (oCase_nat hw))
          | some h =>
            refine oCase_nat fun h => ?_
            cases h with
            | lf h => exact checkIdx_nat (checkIdx_nat (oCase_nat hw))
            | _ => rfl
        | _ => rfl
theorem get_setSelf {st : St L} {l : Loc L} {c : Cell L} (h : cellAt st l = some c) : ∀ k, get (setCell st l.root l.off c).sto k = get st.sto k := by
  intro k
  obtain ⟨r, hr, _, hc⟩ := cellAt_iff.1 h
  rw [get_setCell st _ _ c r hr]
  split
  · rename_i hk
    subst hk
    rw [hr]
    congr 1
    have : r.cells.set l.off c = r.cells := by
      refine List.ext_getElem? fun j => ?_
      rw [List.getElem?_set]
      split
      · rename_i hj
        subst hj
        split
        · exact hc.symm
        · rename_i hl
          rw [List.getElem?_eq_some_iff] at hc
          exact absurd hc.1 hl
      · rfl
    rw [this]
  · rfl
open Classical in
theorem stays_ok : StaysOk cs tb := by
  intro o gd st st' hs h
  obtain ⟨ot, hot⟩ : ∃ x, x = o.op := ⟨_, rfl⟩
  cases hop : o.op <;> rw [hop] at hs <;> try (simp [stays] at hs; done)
  rename_i t x lo hi mx
  have hfz : ∀ y : AV L, @evalO L (semL cs) tb st (gdKeys gd) t x = some y → ∀ k, get (freezeA st y).sto k = get st.sto k := by
    intro y hy k
    cases x with
    | tmp s =>
      simp only [stays] at hs
      simp only [evalO] at hy
      cases hx : get st.env s with
      | none => rw [hx] at hs; cases hs
      | some x =>
        rw [hx] at hs hy
        simp only [Option.some.injEq] at hy
        subst hy
        cases x with
        | lf v => rfl
        | zs e a => rfl
        | ar l =>
          simp only at hs
          split at hs
          · rename_i s0 v0 hst hc
            simp only [freezeA, freezeL, hc]
            exact get_setSelf hc k
          · cases hs
        | _ => simp at hs
    | _ => simp [stays] at hs
  have hput : ∀ (a : St L) d x, (∀ k, get a.sto k = get st.sto k) → ∀ k, get (putE a gd d x).sto k = get st.sto k := fun a d x h k => by rw [putE_sto]; exact h k
  have h1 := slice_nat (cs := cs) (ρ := St L) (σ := St L) (ls := []) (ls2 := []) (f := some) (tb := tb) (st := st) (gd := gd) (dst := o.dst) (rt := o.type) (t := t) (x := x) (lo := lo) (hi := hi) (mx := mx) (k := some) (k2 := fun x => if ∀ k, get x.sto k = get st.sto k then some x else none)
    (fun x => by
      cases o.dst with
      | none => simp [retK]
      | some d => simp only [retK]; rw [if_pos (hput st d x fun _ => rfl)]; rfl)
    (fun y hy w => by
      cases o.dst with
      | none => simp [sliceK]
      | some d => simp only [sliceK]; rw [if_pos (hput _ d _ (hfz y hy))]; rfl)
  unfold opS at h
  rw [hop, h1, Option.bind_eq_some_iff] at h
  obtain ⟨x', h3, h4⟩ := h
  cases h4
  have h5 := opK_opS (cs := cs) (ρ := St L) (ls := []) (tb := tb) (st := st) (gd := gd) (o := o) (k := fun x => if ∀ k, get x.sto k = get st.sto k then some x else none)
  rw [hop, h3] at h5
  have h6 := h5.symm
  rw [Option.bind_eq_some_iff] at h6
  obtain ⟨y, _, h8⟩ := h6
  split at h8
  · cases h8; assumption
  · cases h8
end Go.Y
namespace Go.Y
open RF RAlg
variable {cs : List (Nat × Con)} {ρ σ : Type} {ls : List (Nat × LoopC ρ)} {ls2 : List (Nat × LoopC σ)} {f : σ → Option ρ} {tb : Tabs}
def SoftP (d : Option Nat) (st x : St L) : Prop := ∀ k r, d ≠ some k → get st.sto k = some r → ∃ r', get x.sto k = some r' ∧ SoftR r r'
theorem SoftP.refl (d : Option Nat) (st : St L) : SoftP d st st := fun k r _ h => ⟨r, h, .refl r⟩
theorem SoftP.trans {d : Option Nat} {a b c : St L} (h : SoftP d a b) (h' : SoftP d b c) : SoftP d a c := fun k r hd hr => by
  obtain ⟨r1, h1, h2⟩ := h k r hd hr
  obtain ⟨r2, h3, h4⟩ := h' k r1 hd h1
  exact ⟨r2, h3, h2.trans h4⟩
theorem SoftP.putE {d : Option Nat} {a b : St L} (h : SoftP d a b) (gd : Option (Gd L)) (e : Nat) (x : AV L) : SoftP d a (putE b gd e x) := fun k r hd hr => by
  rw [putE_sto]; exact h k r hd hr
theorem softP_set {d : Option Nat} {st : St L} {l : Loc L} {c c' : Cell L} (hc : cellAt st l = some c) (h : SoftC c c') : SoftP d st (setCell st l.root l.off c') := by
  intro k r _ hr
  obtain ⟨r0, h1, _, h3⟩ := cellAt_iff.1 hc
  rw [get_setCell st _ _ c' r0 h1]
  split
  · rename_i hk
    subst hk
    rw [h1] at hr
    cases hr
    refine ⟨_, rfl, rfl, rfl, by simp, fun j x hj => ?_⟩
    simp only [List.getElem?_set]
    split
    · rename_i hj'
      subst hj'
      rw [h3] at hj
      cases hj
      have := (List.getElem?_eq_some_iff.1 h3).1
      exact ⟨c', by simp [this], h⟩
    · exact ⟨x, hj, .refl x⟩
  · exact ⟨r, hr, .refl r⟩
theorem softP_freezeL (d : Option Nat) (st : St L) (l : Loc L) : SoftP d st (freezeL st l) := by
  unfold freezeL
  split
  · rename_i s e v hc
    refine softP_set hc ?_
    cases e with
    | zero => exact .inl rfl
    | succ e => exact .inr ⟨e, v, rfl, .inr rfl⟩
  · exact .refl d st
theorem softP_frL (d : Option Nat) : ∀ (xs : List (AV L)) (st : St L), SoftP d st (frL st xs)
  | [], st => .refl d st
  | x :: xs, st => by
    unfold frL
    refine SoftP.trans ?_ (softP_frL d xs _)
    unfold frP
    split
    · exact softP_freezeL d st _
    · exact .refl d st
theorem softP_freezeA (d : Option Nat) (st : St L) (x : AV L) : SoftP d st (freezeA st x) := by
  unfold freezeA
  split
  · exact softP_freezeL d st _
  · exact softP_frL d _ st
  · exact .refl d st
theorem softP_freezeAll (d : Option Nat) : ∀ (xs : List (AV L)) (st : St L), SoftP d st (freezeAll st xs)
  | [], st => .refl d st
  | x :: xs, st => (softP_freezeA d st x).trans (softP_freezeAll d xs _)
theorem softP_new (d : Nat) (st : St L) (mem : Option TypeId) (es : List (E L)) : SoftP (some d) st (newRoot st d mem es).1 := by
  intro k r hd hr
  refine ⟨r, ?_, .refl r⟩
  simp only [newRoot, get_put]
  rw [if_neg fun e => hd (by rw [e])]
  exact hr
theorem softP_putAll {d : Option Nat} {st : St L} {l : List (Nat × Root L)} (h : keysFree st.sto l = true) : SoftP d st { st with sto := putAll l st.sto } := by
  intro k r _ hr
  refine ⟨r, ?_, .refl r⟩
  simp only [get_putAll]
  cases hl : get l k with
  | none => exact hr
  | some r' =>
    rw [keysFree_get h k r' hl] at hr
    cases hr
end Go.Y
namespace Go.Y
open RF RAlg
variable {cs : List (Nat × Con)} {ρ σ : Type} {ls : List (Nat × LoopC ρ)} {ls2 : List (Nat × LoopC σ)} {f : σ → Option ρ} {tb : Tabs}
theorem call1_soft {tb : Tabs} {st : St L} {gd : Option (Gd L)} {d : Option Nat} {fn : Nat} {args : List (AV L)} {k : St L → Option ρ} {k2 : St L → Option σ}
    (h : ∀ x, SoftP d st x → k x = (k2 x).bind f) :
    @call1 L (Option ρ) (semL cs) (semF ρ) (semR ρ cs ls) tb st gd d fn args k = (@call1 L (Option σ) (semL cs) (semF σ) (semR σ cs ls2) tb st gd d fn args k2).bind f := by
  unfold call1
  refine oCase_nat fun sg => ?_
  split
  · rfl
  · refine selK_nat fun ys => ?_
    split
    · rfl
    · refine oCase_nat fun vs => call_nat fun r => ?_
      split
      · rfl
      · rename_i d0
        refine oCase_nat fun rs => ?_
        simp only []
        split
        · split
          · exact oCase_nat fun x => h _ ((SoftP.refl _ _).putE _ _ _)
          · rfl
        · split
          · exact oCase_nat fun x => h _ ((softP_freezeAll _ _ _).putE _ _ _)
          · split
            · rename_i hc
              rw [Bool.and_eq_true] at hc
              exact oCase_nat fun x => h _ (((softP_freezeAll _ _ _).trans (softP_putAll hc.1)).putE _ _ _)
            · rfl
          · rfl
theorem call_soft {st : St L} {gd : Option (Gd L)} {dst : Option Nat} {rt : TypeId} {c : Go.Call} {k : St L → Option ρ} {k2 : St L → Option σ} (h : ∀ x, SoftP dst st x → k x = (k2 x).bind f) :
    @opK L (Option ρ) (semL cs) (semF ρ) (semR ρ cs ls) tb st gd dst rt (.call c) k = (@opK L (Option σ) (semL cs) (semF σ) (semR σ cs ls2) tb st gd dst rt (.call c) k2).bind f := by
  have hret : ∀ x : AV L, retK st gd dst k x = (retK st gd dst k2 x).bind f := by
    intro x
    cases dst with
    | none => exact h _ (.refl _ _)
    | some d => exact h _ ((SoftP.refl _ _).putE _ _ _)
  simp only [opK]
  split
  · split
    · refine oCase_nat fun _ => oCase_nat fun _ => peekK_nat fun _ => ?_
      split
      · exact oCase_nat fun _ => hret _
      · rfl
    · rfl
  · split
    · refine oCase_nat fun _ => oCase_nat fun _ => ?_
      split
      · exact oCase_nat fun _ => hret _
      · rfl
    · rfl
  · split
    · refine oCase_nat fun _ => oCase_nat fun _ => ?_
      split
      · exact oCase_nat fun _ => hret _
      · rfl
    · rfl
  · rename_i hc
    cases gd with
    | some g => rfl
    | none =>
      simp only []
      split
      · refine oCase_nat fun _ => oCase_nat fun _ => oCase_nat fun _ => oCase_nat fun _ => ?_
        split
        · refine oCase_nat fun _ => ?_
          split
          · rfl
          · refine peekK_nat fun ys => ?_
            split
            · split
              · exact oCase_nat fun _ => oCase_nat fun _ => oCase_nat fun _ => check_nat (h _ (((softP_freezeA _ _ _).trans (softP_new _ _ _ _)).putE _ _ _))
              · rfl
            · split
              · split
                · exact oCase_nat fun _ => oCase_nat fun _ => oCase_nat fun _ => check_nat (h _ ((((softP_freezeA _ _ _).trans (softP_set ‹_› (.inr ⟨_, _, rfl, .inl ⟨Nat.lt_succ_self _, _, _, of_decide_eq_true (Bool.and_eq_true_iff.1 ‹_›).2⟩⟩))).trans (softP_new _ _ _ _)).putE _ _ _))
                · rfl
              · rfl
            · rfl
        · rfl
      · rfl
  · split
    · rfl
    · refine oCase_nat fun _ => ?_
      split
      · exact evs_nat fun _ => call1_soft h
      · split
        · refine evs_nat fun _ => peekAll_nat fun _ => callV_nat fun _ => ?_
          cases dst with
          | none => rfl
          | some d =>
            refine h _ (SoftP.putE ?_ _ _ _)
            split
            · exact .refl _ _
            · exact softP_freezeAll _ _ _
        · rfl
      · rfl
  · rfl
open Classical in
theorem softWr_ok : SoftWr cs tb := by
  intro o gd st st' hs h
  cases hop : o.op <;> rw [hop] at hs <;> try (simp [softW] at hs; done)
  rename_i c
  have h1 := call_soft (cs := cs) (ρ := St L) (σ := St L) (ls := []) (ls2 := []) (f := some) (tb := tb) (st := st) (gd := gd) (dst := o.dst) (rt := o.type) (c := c) (k := some) (k2 := fun x => if SoftP o.dst st x then some x else none)
    (fun x hx => by rw [if_pos hx]; rfl)
  unfold opS at h
  rw [hop, h1, Option.bind_eq_some_iff] at h
  obtain ⟨x', h3, h4⟩ := h
  cases h4
  have h5 := opK_opS (cs := cs) (ρ := St L) (ls := []) (tb := tb) (st := st) (gd := gd) (o := o) (k := fun x => if SoftP o.dst st x then some x else none)
  rw [hop, h3] at h5
  have h6 := h5.symm
  rw [Option.bind_eq_some_iff] at h6
  obtain ⟨y, _, h8⟩ := h6
  split at h8
  · cases h8; assumption
  · cases h8
end Go.Y
namespace Go.Y
open RF RAlg
variable {cs : List (Nat × Con)} {ρ σ : Type} {ls : List (Nat × LoopC ρ)} {ls2 : List (Nat × LoopC σ)} {f : σ → Option ρ} {tb : Tabs}
theorem evalO_sto {st : St L} {sto' : List (Nat × Root L)} {ks : List (Nat × Bool)} {t : TypeId} {x : Operand} : @evalO L (semL cs) tb ⟨st.env, st.gnv, sto'⟩ ks t x = @evalO L (semL cs) tb st ks t x := by
  cases x <;> rfl
def softN : Op → Bool
  | .move _ | .assign _ | .fieldAddr _ _ _ | .field _ _ _ | .extract _ _ | .nilCheck _ => true
  | _ => false
theorem softN_nat {st : St L} {sto' : List (Nat × Root L)} {gd : Option (Gd L)} {dst : Option Nat} {rt : TypeId} {o : Op} {k : St L → Option ρ} {k2 : St L → Option σ} (hs : softN o = true)
    (hret : ∀ x : AV L, retK st gd dst k x = (retK ⟨st.env, st.gnv, sto'⟩ gd dst k2 x).bind f) :
    @opK L (Option ρ) (semL cs) (semF ρ) (semR ρ cs ls) tb st gd dst rt o k = (@opK L (Option σ) (semL cs) (semF σ) (semR σ cs ls2) tb ⟨st.env, st.gnv, sto'⟩ gd dst rt o k2).bind f := by
  cases o with
  | move x => simp only [opK, evalO_sto]; exact oCase_nat hret
  | assign x => simp only [opK, evalO_sto]; exact oCase_nat hret
  | extract x i =>
    simp only [opK, evalO_sto]
    refine oCase_nat fun _ => ?_
    split
    · exact oCase_nat hret
    · rfl
  | nilCheck x =>
    simp only [opK, evalO_sto]
    refine oCase_nat fun _ => ?_
    split
    · exact hret _
    · exact hret _
    · rfl
  | fieldAddr t x i =>
    simp only [opK, evalO_sto]
    refine oCase_nat fun _ => oCase_nat fun _ => oCase_nat fun _ => oCase_nat fun _ => ?_
    split
    · rfl
    · split
      · exact hret _
      · split
        · exact oCase_nat fun _ => hret _
        · rfl
      · rfl
  | field t x i =>
    simp only [opK, evalO_sto]
    refine oCase_nat fun _ => oCase_nat fun _ => ?_
    split
    · split
      · exact oCase_nat fun _ => oCase_nat fun _ => hret _
      · rfl
    · refine oCase_nat fun _ => oCase_nat fun _ => ?_
      split
      · exact hret _
      · split
        · exact hret _
        · rfl
    · rfl
  | _ => simp [softN] at hs
theorem putE_sto2 {st : St L} {sto' : List (Nat × Root L)} {gd : Option (Gd L)} {d : Nat} {x : AV L} : putE st gd d x = ⟨(putE ⟨st.env, st.gnv, sto'⟩ gd d x).env, (putE ⟨st.env, st.gnv, sto'⟩ gd d x).gnv, st.sto⟩ := by
  unfold putE
  split
  · rfl
  · split <;> rfl
theorem softN_opS {st st' : St L} {sto' : List (Nat × Root L)} {gd : Option (Gd L)} {o : Oper} (hs : softN o.op = true) (h : opS cs tb st gd o = some st') :
    ∃ st2, opS cs tb ⟨st.env, st.gnv, sto'⟩ gd o = some st2 ∧ st2.env = st'.env ∧ st2.gnv = st'.gnv := by
  have h1 := softN_nat (cs := cs) (ρ := St L) (σ := St L) (ls := []) (ls2 := []) (f := fun y => some ⟨y.env, y.gnv, st.sto⟩) (tb := tb) (st := st) (sto' := sto') (gd := gd) (dst := o.dst) (rt := o.type) (k := some) (k2 := some) hs
    (fun x => by
      cases o.dst with
      | none => rfl
      | some d => simp only [retK, Option.bind_some, Option.some.injEq]; exact putE_sto2)
  unfold opS at h ⊢
  rw [h1, Option.bind_eq_some_iff] at h
  obtain ⟨y, h2, h3⟩ := h
  cases h3
  exact ⟨y, h2, rfl, rfl⟩
end Go.Y
namespace Go.Y
open Go.Eng (T RepT RepM SRep Kept Base G SameOn VRep Split Live Free kn Owns ownB RootOk ERep HPred)
variable {P : Program} {I : Ids} {φ : FnP} {β : Base} {nt : Nat} {cs : List (Nat × Con)} {tb : Tabs}
variable {ρ : Type} {ls : List (Nat × LoopC ρ)} {r : ρ}
theorem cellAV_soft {sc st : St L} (hso : SoftS sc.sto st.sto) {g : G} {w : World} (hi : Inv P I φ β st g w) {l : Loc L} (hst : l.steps = []) {r1 : Root L} (hr : get st.sto l.root = some r1) (hg : r1.gen = l.gen) {j : Nat} {c c' : Cell L}
    (hc : r1.cells[j]? = some c') (hs : SoftC c c') :
    ∃ u, Eng.rootV g w l.root (injR I φ st r1) j = some u ∧ ARep P I φ st g w (@cellAV L (semL cs) sc { l with off := j } c) u := by
  obtain ⟨u, hu, ha⟩ := cellAV_ok (cs := cs) hi hst hr hg hc
  have hr' : Eng.get (injS I φ st) l.root = some (injR I φ st r1) := by rw [get_injS, hr]; rfl
  refine ⟨u, hu, ?_⟩
  obtain ⟨s, e⟩ := c
  rcases hs with rfl | ⟨d, v, h1, h2⟩
  · cases e with
    | o d v => cases d <;> exact ha
    | mv => exact ha
    | rf l' =>
      unfold cellAV at ha ⊢
      simp only at ha ⊢
      cases hra : rootAt sc l' with
      | none => exact .u _
      | some r2 =>
        cases hm : r2.mem with
        | none => simp only [hm]; exact .u _
        | some e =>
          simp only [hm]
          obtain ⟨h3, h4⟩ := rootAt_iff.1 hra
          obtain ⟨r3, h5, h6⟩ := hso _ _ h3
          have h7 : rootAt st l' = some r3 := rootAt_iff.2 ⟨h5, by rw [h6.gen]; exact h4⟩
          simp only [h7, h6.mem, hm] at ha
          exact ha
  · simp only at h1
    subst h1
    obtain ⟨vty, vv⟩ := v
    have hle : s ≤ c'.stamp := by
      rcases h2 with ⟨h2, _⟩ | rfl
      · exact Nat.le_of_lt h2
      · exact Nat.le_refl _
    cases vty with
    | sl e a =>
      refine .ar _ _ ⟨r1, hr, Nat.le_of_eq hg.symm, fun _ c1 hc1 => ?_⟩ fun _ _ _ _ _ _ => ?_
      · simp only at hc1
        rw [hc, Option.some.injEq] at hc1
        subst hc1
        exact hle
      · unfold Eng.locV
        simp only [injLoc, hst, List.map_nil, hr', Option.bind_some]
        exact hu
    | ptr e a => exact .u _
    | _ =>
      rcases h2 with ⟨_, e', a', h3⟩ | rfl
      · cases h3
      · exact ha
end Go.Y
namespace Go.Y
open Go.Eng (T RepT RepM SRep Kept Base G SameOn VRep Split Live Free kn Owns ownB RootOk ERep HPred)
variable {P : Program} {I : Ids} {φ : FnP} {β : Base} {nt : Nat} {cs : List (Nat × Con)} {tb : Tabs}
variable {ρ : Type} {ls : List (Nat × LoopC ρ)} {r : ρ}
theorem loadL_soft {sc st : St L} (hso : SoftS sc.sto st.sto) {g : G} {w : World} (hi : Inv P I φ β st g w) {l : Loc L} (hst : l.steps = []) {r1 : Root L} (hr : get st.sto l.root = some r1) (hg : r1.gen = l.gen) :
    ∀ (zs : List (Cell L)) (j : Nat), (∀ i c, zs[i]? = some c → ∃ c', r1.cells[l.off + j + i]? = some c' ∧ SoftC c c') → ∃ us : Nat → Value, (@loadK.loadL L (semL cs) sc l j zs).length = zs.length ∧
      ∀ i x, (@loadK.loadL L (semL cs) sc l j zs)[i]? = some x → Eng.rootV g w l.root (injR I φ st r1) (l.off + j + i) = some (us i) ∧ ARep P I φ st g w x (us i) := by
  intro zs
  induction zs with
  | nil => intro j _; exact ⟨fun _ => undef, rfl, fun i x hx => by simp [loadK.loadL] at hx⟩
  | cons c zs ih =>
    intro j hz
    obtain ⟨us, h1, h2⟩ := ih (j + 1) (fun i c hc => by
      obtain ⟨c', h3, h4⟩ := hz (i + 1) c (by simpa using hc)
      exact ⟨c', by rw [← h3]; congr 1; omega, h4⟩)
    obtain ⟨c', h5, h6⟩ := hz 0 c rfl
    obtain ⟨u, hu, ha⟩ := cellAV_soft (cs := cs) hso hi hst hr hg h5 h6
    refine ⟨fun i => match i with | 0 => u | i + 1 => us i, by simp [loadK.loadL, h1], fun i x hx => ?_⟩
    cases i with
    | zero =>
      simp only [loadK.loadL, List.getElem?_cons_zero, Option.some.injEq] at hx
      subst hx
      exact ⟨hu, by simpa using ha⟩
    | succ i =>
      simp only [loadK.loadL, List.getElem?_cons_succ] at hx
      obtain ⟨h3, h4⟩ := h2 i x hx
      refine ⟨?_, h4⟩
      rw [← h3]
      congr 1
      omega
theorem load_soft {sc st : St L} (hso : SoftS sc.sto st.sto) {g : G} {w : World} (hi : Inv P I φ β st g w) {l : Loc L} (hst : l.steps = []) {r0 : Root L} (hr0 : rootAt sc l = some r0) {e : TypeId} (hm0 : r0.mem = some e) {t : TypeId} {i : TI} (hti : TiFacts P t i) {u : Value} (ha : ARep P I φ st g w (.pt l) u)
    (hn : (@loadK.loadL L (semL cs) sc l 0 (takeL i.cells (dropL l.off r0.cells))).length = i.cells) {y : AV L}
    (hy : (i.agg = true ∧ y = @mkAg L (semL cs) i.ty (@loadK.loadL L (semL cs) sc l 0 (takeL i.cells (dropL l.off r0.cells)))) ∨ (i.agg = false ∧ @loadK.loadL L (semL cs) sc l 0 (takeL i.cells (dropL l.off r0.cells)) = [y])) :
    ∃ z, (Instr.loadAt t u).run P w = .ok z w ∧ ARep P I φ st g w y z := by
  obtain ⟨h10, h20⟩ := rootAt_iff.1 hr0
  obtain ⟨r1, h1, hsr⟩ := hso _ _ h10
  have h2 : r1.gen = l.gen := by rw [hsr.gen]; exact h20
  have hm : r1.mem = some e := by rw [hsr.mem]; exact hm0
  have hr : rootAt st l = some r1 := rootAt_iff.2 ⟨h1, h2⟩
  obtain ⟨us, h3, h4⟩ := loadL_soft (cs := cs) hso hi hst h1 h2 (takeL i.cells (dropL l.off r0.cells)) 0 (fun j c hj => by
    rw [takeL_eq, dropL_eq, List.getElem?_take] at hj
    split at hj
    · rw [List.getElem?_drop] at hj
      obtain ⟨c', h5, h6⟩ := hsr.cell _ _ hj
      exact ⟨c', by simpa using h5, h6⟩
    · cases hj)
  generalize hz : @loadK.loadL L (semL cs) sc l 0 (takeL i.cells (dropL l.off r0.cells)) = zs at h3 h4 hn hy
  cases ha with
  | pt _ b o hb hl =>
    have hget : Eng.get (injS I φ st) (injLoc l).root = some (injR I φ st r1) := by rw [get_injS]; simp [injLoc, h1]
    have hst' : (injLoc l).steps = [] := by simp [injLoc, hst]
    have hA := hl ⟨⟨r1, hr⟩, fun hne => absurd hst hne⟩ (by
      unfold Eng.There
      simp only [hst']
      exact ⟨_, e, hget, by simp [injR, hm]⟩)
    unfold Eng.locA at hA
    simp only [hget, hst', injR, hm, Option.map_some, Option.some.injEq, Addr.mk.injEq] at hA
    obtain ⟨rfl, rfl, _⟩ := hA
    have hcell : ∀ j x, zs[j]? = some x → w.cell? ⟨g.ad l.root, l.off + j, none⟩ = some (us j) := by
      intro j x hj
      have := (h4 j x hj).1
      unfold Eng.rootV at this
      simp only [injR, hm, Nat.add_zero] at this
      exact this
    rcases hy with ⟨hag, rfl⟩ | ⟨hag, hy⟩
    · refine ⟨_, run_loadAt_agg hti.kn (us := us) (fun j hj => ?_) (by rw [← hti.agg]; exact hag), mkAg_ok (us := us) (by rw [hti.isAgg, hag]) (by simp [hn, hti.cells]) fun j c hj => ?_⟩
      · have hjl : j < zs.length := by rw [hn, hti.cells]; exact hj
        exact hcell j zs[j] (by simp [hjl])
      · have hjl := lt_of_get hj
        refine ⟨?_, (h4 j c hj).2⟩
        have : j < P.cellsOf t := by rw [← hti.cells, ← hn]; exact hjl
        simp [this]
    · have hj : zs[0]? = some y := by rw [hy]; rfl
      refine ⟨us 0, run_loadAt_one hti.kn (hcell 0 y hj) (by rw [← hti.agg]; exact hag), (h4 0 y hj).2⟩
end Go.Y
namespace Go.Y
open Go.Eng (T RepT RepM SRep Kept Base G SameOn VRep Split Live Free kn Owns ownB RootOk ERep HPred)
variable {P : Program} {I : Ids} {φ : FnP} {β : Base} {nt : Nat} {cs : List (Nat × Con)} {tb : Tabs}
variable {ρ : Type} {ls : List (Nat × LoopC ρ)} {r : ρ} {pins : List (Nat × Value)}
theorem soft_fin {o : Oper} {gd : Option (Gd L)} {stc st' : St L} {sto' : List (Nat × Root L)} (hd : ∀ d, o.dst = some d → d < nt) (hself : selfOk gd o.dst = true) {y : AV L}
    (hret : retK stc gd o.dst some y = some st')
    (hrun : ∀ (β : Base) (a : Act) (w : World) (g : G), Inv P I φ β ⟨stc.env, stc.gnv, sto'⟩ g w → EnvR P I φ ⟨stc.env, stc.gnv, sto'⟩ g w stc.env a.tmps → GnvR P I φ ⟨stc.env, stc.gnv, sto'⟩ g w stc.gnv a.tmps → Hold a.tmps (keysOf gd) → On gd → ∃ u, (execOp a.eval o).run P w = .ok (.value u) w ∧ ARep P I φ ⟨stc.env, stc.gnv, sto'⟩ g w y u) :
    ∃ st'' : St L, st''.sto = sto' ∧ (∀ d, o.dst = some d → get st''.env d = get st'.env d ∧ get st''.gnv d = get st'.gnv d) ∧ ∀ β, Does P I φ β nt o ⟨stc.env, stc.gnv, sto'⟩ gd st'' := by
  cases hdst : o.dst with
  | none =>
    exact ⟨⟨stc.env, stc.gnv, sto'⟩, rfl, fun d h => (by cases h), fun β => does_none hdst fun a w g hi he hn hh hon => by
      obtain ⟨u, h1, _⟩ := hrun β a w g hi he hn hh hon; exact ⟨u, h1⟩⟩
  | some d =>
    rw [hdst] at hret
    simp only [retK, Option.some.injEq] at hret
    subst hret
    refine ⟨putE ⟨stc.env, stc.gnv, sto'⟩ gd d y, by rw [putE_sto], fun d' h => ?_, fun β => does_pure hdst (hd d hdst) hself (hrun β)⟩
    rw [putE_sto2 (st := stc) (sto' := sto')]
    exact ⟨rfl, rfl⟩
theorem softN_ro {o : Op} (h : softN o = true) : readOnly tb o = true := by
  cases o <;> first | rfl | (simp [softN] at h)
theorem soft_ok (hT : TabOk P tb) (hop : ∀ β, OpOk P I φ β nt cs ([] : List (Nat × LoopC (St L))) tb) : SoftOk P I φ nt cs tb := by
  intro o gd stc st' sto' hd hself hs h hso
  by_cases hN : softN o.op = true
  · obtain ⟨st2, h1, h2, h3⟩ := softN_opS (sto' := sto') hN h
    exact ⟨st2, opS_readOnly (softN_ro hN) h1, fun d _ => ⟨by rw [h2], by rw [h3]⟩, does_of hop hd hself h1⟩
  · cases ho : o.op with
    | load t x =>
      have h0 := h
      unfold opS at h
      rw [ho] at h hs
      simp only [opK] at h
      obtain ⟨xv, hx, h1⟩ := oCase_some h
      clear h
      obtain ⟨i, hti, h⟩ := oCase_some h1
      clear h1
      have hI := ti_facts (hT t i hti)
      have run : ∀ (a : Act) (w : World) z, (Instr.loadAt t (a.eval x)).run P w = .ok z w → (execOp a.eval o).run P w = .ok (.value z) w := by
        intro a w z hz
        unfold execOp
        simp only [ho]
        exact run_v hz
      have hx' : @evalO L (semL cs) tb ⟨stc.env, stc.gnv, sto'⟩ (keysOf gd) 0 x = some xv := by rw [evalO_sto]; exact hx
      have hx2 : @evalO L (semL cs) tb stc (gdKeys gd) 0 x = some xv := hx
      simp only [softR, hx2] at hs
      split at h
      · rename_i l
        have hst : l.steps = [] := by simpa using hs
        unfold loadK at h
        obtain ⟨r1, hr, h1⟩ := oCase_some h
        clear h
        rw [hst] at h1
        simp only at h1
        split at h1
        · cases h1
        · rename_i e hm
          split at h1
          · cases h1
          · rename_i hlen
            have hlen := (beq_iff _ _).1 hlen
            split at h1
            · rename_i hag
              refine soft_fin hd hself h1 fun β a w g hi he hn hh hon => ?_
              obtain ⟨z, h2, h3⟩ := load_soft (cs := cs) hso hi hst hr hm hI (evalO_ok (P := P) (I := I) (φ := φ) (g := g) (w := w) he hn hh hx') hlen (.inl ⟨hag, rfl⟩)
              exact ⟨z, run a w z h2, h3⟩
            · rename_i hag
              split at h1
              · rename_i y hy
                refine soft_fin hd hself h1 fun β a w g hi he hn hh hon => ?_
                obtain ⟨z, h2, h3⟩ := load_soft (cs := cs) hso hi hst hr hm hI (evalO_ok (P := P) (I := I) (φ := φ) (g := g) (w := w) he hn hh hx') hlen (.inr ⟨hag, hy⟩)
                exact ⟨z, run a w z h2, h3⟩
              · cases h1
      · rename_i v
        split at h
        · rename_i hdec
          have h4 : opS cs tb ⟨stc.env, stc.gnv, sto'⟩ gd o = retK ⟨stc.env, stc.gnv, sto'⟩ gd o.dst some (.lf v) := by
            unfold opS
            rw [ho]
            simp only [opK, evalO_sto, hx2, hti, oCase, hdec]
            rfl
          have h5 : retK stc gd o.dst some (.lf v) = some st' := h
          cases hdst : o.dst with
          | none =>
            rw [hdst] at h4
            exact ⟨⟨stc.env, stc.gnv, sto'⟩, rfl, fun d h => (by cases h), does_of hop hd hself h4⟩
          | some d =>
            rw [hdst] at h4 h5
            simp only [retK, Option.some.injEq] at h5
            subst h5
            refine ⟨_, by rw [putE_sto], fun d' h => ?_, does_of hop hd hself h4⟩
            rw [putE_sto2 (st := stc) (sto' := sto')]
            exact ⟨rfl, rfl⟩
        · cases h
      · cases h
    | _ => rw [ho] at hs hN; first | (simp [softR] at hs; done) | exact absurd rfl hN
theorem drawOk (hmix : P.follows .mixedOrders = true) (hT : TabOk P tb) (hf : FnsOk (phi P I) cs) (hC : CallsOk P I (phi P I) cs tb) : DrawOk P I (phi P I) β nt cs ls tb pins :=
  draw_ok hf hmix (fun _ => op_ok hT hf hC) (soft_ok hT fun _ => op_ok hT hf hC) softWr_ok stays_ok
end Go.Y
namespace Go.Y
open Go.Eng (T RepT RepM SRep Kept Base G SameOn VRep Split Live Free kn)
variable {P : Program} {I : Ids} {φ : FnP} {cs : List (Nat × Con)} {tb : Tabs}
theorem get_consE {α : Type} {j : Nat} {x : α} {r : List (Nat × α)} {k : Nat} {y : α} (h : get ((j, x) :: r) k = some y) : (k = j ∧ y = x) ∨ get r k = some y := by
  rw [get_cons] at h
  split at h
  · rename_i hj; exact .inl ⟨hj.symm, (Option.some.inj h).symm⟩
  · exact .inr h
theorem noSome {α : Type} {r : α} {C : Prop} (h : none = some r) : C := by cases h
theorem get_nilE {α : Type} {k : Nat} {y : α} (h : get ([] : List (Nat × α)) k = some y) : False := by simp [get] at h
def lhAt (H : Hints) (k : Nat) : LH := match get H.loops k with | some h => h | none => default
def codeAt (k : Nat) (c : Code) : Code := match findLoop k c with | some b => b | none => .skip
def kget {ρ : Type} (ks : List (L → Option ρ)) (i : Nat) : L → Option ρ := match ks[i]? with | some k => k | none => fun _ => none
def lenK {X ρ : Type} (m : Nat) (G : X → List (L → Option ρ) → Option ρ) (x : X) (ks : List (L → Option ρ)) : Option ρ := match Nat.beq ks.length m with | true => G x ks | false => none
def mapK {ρ : Type} (ks : List (L → Option ρ)) : Nat → List Ty → List (L → Option ρ)
  | _, [] => []
  | i, t :: ts => (fun v => match v.as t with | some y => kget ks i ⟨t, y⟩ | none => none) :: mapK ks (i + 1) ts
theorem mapK_len {ρ : Type} (ks : List (L → Option ρ)) : ∀ (i : Nat) (ts : List Ty), (mapK ks i ts).length = ts.length
  | _, [] => rfl
  | i, _ :: ts => congrArg (· + 1) (mapK_len ks (i + 1) ts)
theorem mapK_ok {ρ : Type} (ks : List (L → Option ρ)) : ∀ (i : Nat) (ts : List Ty) (j : Nat) k', (mapK ks i ts)[j]? = some k' → i + ts.length ≤ ks.length → ∃ k, ks[i + j]? = some k ∧ ∀ v r, k' v = some r → k v = some r
  | _, [], j, k', h, _ => by simp [mapK] at h
  | i, t :: ts, j, k', h, hl => by
    simp only [List.length_cons] at hl
    cases j with
    | zero =>
      simp only [mapK, List.getElem?_cons_zero, Option.some.injEq] at h
      subst h
      have hi : ks[i]? = some ks[i] := List.getElem?_eq_getElem (by omega)
      refine ⟨_, hi, fun v r hv => ?_⟩
      have hv : (match v.as t with | some y => kget ks i ⟨t, y⟩ | none => none) = some r := hv
      split at hv
      · rename_i y hy
        rw [as_some hy]
        unfold kget at hv
        rw [hi] at hv
        exact hv
      · cases hv
    | succ j =>
      simp only [mapK, List.getElem?_cons_succ] at h
      obtain ⟨k0, h1, h2⟩ := mapK_ok ks (i + 1) ts j k' h (by omega)
      exact ⟨k0, by rw [← h1]; congr 1; omega, h2⟩
structure RoundOk (cs : List (Nat × Con)) {ρ : Type} (ls : List (Nat × LoopC ρ)) (tb : Tabs) (H : Hints) (fin : St L → (L → Option ρ) → Option ρ) (rt : Ty) (lh : LH) (body : Code) (ts tys : List Ty)
    (G : Nat → (tupTy ts).den → List (L → Option ρ) → Option ρ) : Prop where
  sh : leafs lh.sh = ts
  zero : ∀ x ks, G 0 x ks = none
  step : ∀ n x ks, @yround L (Option ρ) (semL cs) (semF ρ) (semR ρ cs ls) tb H fin rt lh body (unT ts x) (fun vs => match (tupL vs).as (tupTy ts) with | some x' => G n x' ks | none => none) (mapK ks 0 tys) = G (n + 1) x ks
theorem loopOk {ρ : Type} {ls : List (Nat × LoopC ρ)} {H : Hints} {fin : St L → (L → Option ρ) → Option ρ} {rt : Ty} {lh : LH} {body : Code} {ts tys : List Ty} {G : Nat → (tupTy ts).den → List (L → Option ρ) → Option ρ} {N : Nat}
    (h : RoundOk cs ls tb H fin rt lh body ts tys G) : LoopOk cs ls tb H fin rt ⟨tupTy ts, lenK tys.length (G N)⟩ lh body (fun n vs ks => match (tupL vs).as (tupTy ts) with | some x => lenK tys.length (G n) x ks | none => none) := by
  have len : ∀ n x ks r, lenK tys.length (G n) x ks = some r → ks.length = tys.length ∧ G n x ks = some r := by
    intro n x ks r hr
    unfold lenK at hr
    split at hr
    · rename_i hb; exact ⟨(beq_iff _ _).1 hb, hr⟩
    · cases hr
  have len' : ∀ n x (ks : List (L → Option ρ)), ks.length = tys.length → lenK tys.length (G n) x ks = G n x ks := by
    intro n x ks hl
    unfold lenK
    rw [hl, Nat.beq_refl]
  refine ⟨fun vs x ks r _ hx hr => ⟨N, ?_⟩, fun vs ks => ?_, fun n vs ks r hty hr => ?_⟩
  · have hx : (tupL vs).as (tupTy ts) = some x := hx
    show (match (tupL vs).as (tupTy ts) with | some x => lenK tys.length (G N) x ks | none => none) = some r
    rw [hx]; exact hr
  · show (match (tupL vs).as (tupTy ts) with | some x => lenK tys.length (G 0) x ks | none => none) = none
    split
    · unfold lenK
      split
      · exact h.zero _ _
      · rfl
    · rfl
  · have hr : (match (tupL vs).as (tupTy ts) with | some x => lenK tys.length (G (n + 1)) x ks | none => none) = some r := hr
    split at hr
    · rename_i x hx
      obtain ⟨h1, h2⟩ := len _ _ _ _ hr
      refine ⟨mapK ks 0 tys, by rw [mapK_len, h1], fun j k' hk => ?_, ?_⟩
      · obtain ⟨k, h3, h4⟩ := mapK_ok ks 0 tys j k' hk (by omega)
        exact ⟨k, by rw [← h3, Nat.zero_add], h4⟩
      · have hvs : unT ts x = vs := by
          have h3 : ∀ (ts : List Ty) (hts : vs.map (·.ty) = ts) (x : (tupTy ts).den), (tupL vs).as (tupTy ts) = some x → unT ts x = vs := by
            intro ts hts x hx
            subst hts
            exact unT_of vs x hx
          exact h3 ts (hty.trans h.sh) x hx
        have h5 := h.step n x ks
        rw [hvs, h2] at h5
        have he : (fun vs' => match (tupL vs').as (tupTy ts) with | some x => lenK tys.length (G n) x ks | none => none) = fun vs' => match (tupL vs').as (tupTy ts) with | some x' => G n x' ks | none => none := by
          funext vs'
          split
          · exact len' _ _ _ h1
          · rfl
        show @yround L (Option ρ) (semL cs) (semF ρ) (semR ρ cs ls) tb H fin rt lh body vs (fun vs' => match (tupL vs').as (tupTy ts) with | some x => lenK tys.length (G n) x ks | none => none) (mapK ks 0 tys) = some r
        rw [he]
        exact h5
    · cases hr
def LoopsL (cs : List (Nat × Con)) {ρ : Type} (ls : List (Nat × LoopC ρ)) (tb : Tabs) (H : Hints) (fin : St L → (L → Option ρ) → Option ρ) (rt : Ty) (c : Code) : Prop :=
  ∀ key lc, get ls key = some lc → ∃ Fn, LoopOk cs ls tb H fin rt lc (lhAt H key) (codeAt key c) Fn
theorem findLoop_mem {key : Nat} : ∀ {c b : Code}, findLoop key c = some b → b ∈ subLoops c ∧ codeKey b = key := by
  intro c
  induction c with
  | seq a b iha ihb =>
    intro d h
    simp only [findLoop] at h
    split at h
    · rename_i x hx
      simp only [Option.some.injEq] at h; subst h
      exact ⟨by simp [subLoops, (iha hx).1], (iha hx).2⟩
    · exact ⟨by simp [subLoops, (ihb h).1], (ihb h).2⟩
  | cond c a b iha ihb =>
    intro d h
    simp only [findLoop] at h
    split at h
    · rename_i x hx
      simp only [Option.some.injEq] at h; subst h
      exact ⟨by simp [subLoops, (iha hx).1], (iha hx).2⟩
    · exact ⟨by simp [subLoops, (ihb h).1], (ihb h).2⟩
  | block id c ih => intro d h; exact ih h
  | scope c ih => intro d h; exact ih h
  | loop c ih =>
    intro d h
    simp only [findLoop] at h
    split at h
    · rename_i hk
      simp only [Option.some.injEq] at h; subst h
      exact ⟨by simp [subLoops], (beq_iff _ _).1 hk⟩
    · exact ⟨by simp [subLoops, (ih h).1], (ih h).2⟩
  | _ => intro d h; simp [findLoop] at h
theorem findLoop_some {b : Code} : ∀ {c : Code}, b ∈ subLoops c → ∃ b', findLoop (codeKey b) c = some b' := by
  intro c
  induction c with
  | seq a d iha ihb =>
    intro h
    simp only [subLoops, List.mem_append] at h
    simp only [findLoop]
    cases hx : findLoop (codeKey b) a with
    | some x => exact ⟨x, rfl⟩
    | none =>
      rcases h with h | h
      · obtain ⟨y, hy⟩ := iha h; rw [hx] at hy; cases hy
      · exact ihb h
  | cond q a d iha ihb =>
    intro h
    simp only [subLoops, List.mem_append] at h
    simp only [findLoop]
    cases hx : findLoop (codeKey b) a with
    | some x => exact ⟨x, rfl⟩
    | none =>
      rcases h with h | h
      · obtain ⟨y, hy⟩ := iha h; rw [hx] at hy; cases hy
      · exact ihb h
  | block id c ih => intro h; exact ih h
  | scope c ih => intro h; exact ih h
  | loop c ih =>
    intro h
    simp only [subLoops, List.mem_cons] at h
    simp only [findLoop]
    cases hk : Nat.beq (codeKey c) (codeKey b) with
    | true => exact ⟨c, rfl⟩
    | false =>
      rcases h with rfl | h
      · rw [Nat.beq_refl] at hk; cases hk
      · exact ih h
  | _ => intro h; simp [subLoops] at h
theorem nodupN_inj {α : Type} (f : α → Nat) : ∀ {l : List α}, nodupN (l.map f) = true → ∀ a ∈ l, ∀ b ∈ l, f a = f b → a = b
  | [], _, a, ha, _, _, _ => by simp at ha
  | x :: r, h, a, ha, b, hb, hf => by
    simp only [List.map_cons, nodupN, Bool.and_eq_true, Bool.not_eq_true'] at h
    have hx : ∀ y ∈ r, f y ≠ f x := fun y hy he => by
      have : memN (f x) (r.map f) = true := memN_iff.2 (he ▸ List.mem_map.2 ⟨y, hy, rfl⟩)
      rw [this] at h; cases h.1
    rcases List.mem_cons.1 ha with ha1 | ha1
    · rcases List.mem_cons.1 hb with hb1 | hb1
      · rw [ha1, hb1]
      · rw [ha1] at hf; exact absurd hf.symm (hx b hb1)
    · rcases List.mem_cons.1 hb with hb1 | hb1
      · rw [hb1] at hf; exact absurd hf (hx a ha1)
      · exact nodupN_inj f h.2 a ha1 b hb1 hf
def funChk (fn : Func) (q : Fun) : Bool :=
  (fn.name == "runtime.NumGoroutine") == false && (codeOk fn.ntmps [] (fun _ => true) q.code && (finKeys q.H.fin q.res.length && (Nat.ble q.ts.length fn.ntmps && (nodupN ((subLoops q.code).map codeKey)))))
def keysLt : List (Nat × Con) → Bool
  | [] => true
  | (k, _) :: r => Nat.blt k 1000000 && keysLt r
theorem fnsOk_of {φ : FnP} : ∀ {cs : List (Nat × Con)}, keysLt cs = true → FnsOk φ cs := by
  intro cs h f c hg
  exfalso
  induction cs with
  | nil => simp [get] at hg
  | cons p r ih =>
    obtain ⟨k, d⟩ := p
    simp only [keysLt, Bool.and_eq_true] at h
    rcases get_consE hg with ⟨hk, _⟩ | hg
    · have := h.1
      rw [Nat.blt_eq] at this
      omega
    · exact ih h.2 hg
theorem phi_fnf {A : Ty} (hA : A.fnf = true) (x : A.den) : tr I (phi P I) A x = tr I phi0 A x := by
  unfold tr; rw [trc_fnf A hA]
def fieldyT : List Ty → Bool
  | [] => true
  | v :: r => v.fieldy && fieldyT r
theorem fieldyT_of : ∀ {vs : List L}, fieldyL vs = true → fieldyT (vs.map (·.ty)) = true
  | [], _ => rfl
  | v :: r, h => by
    simp only [fieldyL, Bool.and_eq_true] at h
    simp only [List.map_cons, fieldyT, Bool.and_eq_true]
    exact ⟨h.1, fieldyT_of h.2⟩
theorem tupTy_inj : ∀ {ts us : List Ty}, fieldyT ts = true → fieldyT us = true → tupTy ts = tupTy us → ts = us
  | [], [], _, _, _ => rfl
  | [], [u], _, h, he => by
    simp only [fieldyT, Bool.and_true] at h
    have he : Ty.unit = u := he
    subst he; cases h
  | [], u :: v :: r, _, _, he => by cases (show Ty.unit = Ty.pair u (tupTy (v :: r)) from he)
  | [t], [], h, _, he => by
    simp only [fieldyT, Bool.and_true] at h
    have he : t = Ty.unit := he
    subst he; cases h
  | t :: s :: r, [], _, _, he => by cases (show Ty.pair t (tupTy (s :: r)) = Ty.unit from he)
  | [t], [u], _, _, he => by have he : t = u := he; rw [he]
  | [t], u :: v :: r, h, _, he => by
    simp only [fieldyT, Bool.and_true] at h
    have he : t = Ty.pair u (tupTy (v :: r)) := he
    subst he; cases h
  | t :: s :: r, [u], _, h, he => by
    simp only [fieldyT, Bool.and_true] at h
    have he : Ty.pair t (tupTy (s :: r)) = u := he
    subst he; cases h
  | t :: s :: r, u :: v :: q, h1, h2, he => by
    have he : Ty.pair t (tupTy (s :: r)) = Ty.pair u (tupTy (v :: q)) := he
    simp only [Ty.pair.injEq] at he
    simp only [fieldyT, Bool.and_eq_true] at h1 h2
    rw [he.1, tupTy_inj (ts := s :: r) (us := v :: q) (by simp only [fieldyT, Bool.and_eq_true]; exact h1.2) (by simp only [fieldyT, Bool.and_eq_true]; exact h2.2) he.2]
theorem tupL_ty : ∀ (vs : List L), (tupL vs).ty = tupTy (vs.map (·.ty))
  | [] => rfl
  | [v] => rfl
  | v :: w :: r => by show Ty.pair v.ty (tupL (w :: r)).ty = Ty.pair v.ty (tupTy ((w :: r).map (·.ty))); rw [tupL_ty (w :: r)]
theorem fnVal {f : FuncId} {sg : Sig} {con : Con} (h : FnOk P I (phi P I) f sg con) (hA : con.A.fnf = true) (hB : con.B.fnf = true) (hin : tupTy (leafs sg.ins) = con.A) (hfy : fieldyT (leafs sg.ins) = true)
    (hm : sg.many = false) (ho : sg.out = ⟨[(0, .lf con.B)], [], []⟩) :
    ∀ w F, (phi P I con.A con.B con.F).p w F (.func (.func f) #[] #[]) := by
  intro w F
  refine ⟨hA, hB, f, rfl, h.fn, fun a r hF vs hx hvy w Fr us hFr hus hrep => ?_⟩
  have hty : (tupL vs).ty = con.A := by have := as_some hx; rw [this]
  have hts : vs.map (·.ty) = leafs sg.ins := tupTy_inj (fieldyT_of hvy) hfy (by rw [← tupL_ty, hty, hin])
  refine (h.run a r hF vs hx hts w Fr us hFr hus fun j v hv => ?_).mono fun e w' ⟨u, he, g', rs, hrs, hinv, hres⟩ => ?_
  · obtain ⟨u, hu, hr⟩ := hrep j v hv
    refine ⟨u, hu, ?_⟩
    rw [← trL_fnf (φ := phi0) (φ' := phi P I) (tupL_fnf vs (by rw [hty]; exact hA) v (List.mem_of_getElem? hv))]
    exact hr
  · subst he
    have hrs := hrs []
    rw [ho] at hrs hinv hres
    have hrs : some [(⟨con.B, r⟩ : L)] = some rs := hrs
    simp only [Option.some.injEq] at hrs
    subst hrs
    rw [hm] at hres
    have hu := arep_lf (hres (.lf ⟨con.B, r⟩) rfl)
    refine ⟨u, rfl, g'.F, ⟨hinv.k.os, hinv.k.tape, hinv.k.output, hinv.k.size, fun b hb => hinv.k.block b hb (fun h => h), hinv.k.F, fun b hb => ?_⟩, ?_⟩
    · rcases hinv.k.F' b hb with h | h | h
      · exact .inl h
      · exact h.elim
      · exact .inr ⟨h, hinv.f b hb⟩
    · rw [trL_fnf (φ := phi0) (φ' := phi P I) (v := ⟨con.B, r⟩) hB]
      exact hu
theorem TabOk.tt {T : List (Nat × TI)} (h : tabOk P ⟨T, [], []⟩ = true) : ∀ tb : Tabs, tb.tt = T → TabOk P tb := fun tb e t i hg => (TabOk.of h) t i (by rw [e] at hg; exact hg)
theorem fnOk2 {f : FuncId} {fn : Func} {q : Fun} {sg : Sig} (hmix : P.follows .mixedOrders = true) (hfn : P.funcs[f]? = some fn) (hbody : fn.body = some q.code) (hres : fn.results.toList = q.res)
    (hins : leafs sg.ins = q.ts) (hout : sg.out = q.H.fin.sh) (hmany : sg.many = decide (q.res.length ≠ 1)) (hB : q.B = tupTy (leafs q.H.fin.sh)) (hchk : funChk fn q = true) (hT : TabOk P q.tb)
    (hf : FnsOk (phi P I) q.cs) (hC : CallsOk P I (phi P I) q.cs q.tb) (hL : LoopsL q.cs q.ls q.tb q.H q.fin q.B q.code)
    (hrun : ∀ x : (tupTy q.ts).den, q.run (inSt q.ts x) = q.F x) : FnOk P I (phi P I) f sg q.con := by
  unfold funChk at hchk
  simp only [Bool.and_eq_true, beq_iff_eq] at hchk
  obtain ⟨h1, h2, h3, h4, h5⟩ := hchk
  refine fnOk hfn (by simpa using h1) hbody hres hins hout hmany hB hT hf hC (fun β => drawOk hmix hT hf hC) ?_ h2 h3 (Nat.le_of_ble_eq_true h4) hrun
  intro body hb lh lc hlh hlc
  obtain ⟨Fn, hF⟩ := hL _ lc hlc
  obtain ⟨b', hb'⟩ := findLoop_some hb
  obtain ⟨h7, h8⟩ := findLoop_mem hb'
  have : b' = body := nodupN_inj codeKey h5 b' h7 body hb h8
  subst this
  have e1 : lhAt q.H (codeKey b') = lh := by unfold lhAt; rw [hlh]
  have e2 : codeAt (codeKey b') q.code = b' := by unfold codeAt; rw [hb']
  rw [e1, e2] at hF
  exact ⟨Fn, hF⟩
end Go.Y
set_option maxRecDepth 100000
set_option linter.unusedVariables false
namespace Go.Y
open Go
def known_Any (N : Nat) : Option (Bool × Int) :=
  some (false, 0)
def span_Any (N : Nat) : Option (Int × Int) :=
  some ((-9223372036854775808), 9223372036854775807)
def fact_Any (N : Nat) : Option (Int × (Bool × Int) × (Int × Int) × Int) :=
  pCall (known_Any N) fun x0 =>
  pCall (span_Any N) fun x1 =>
  some (7, (x0.1, x0.2), (x1.1, x1.2), 3)
def sign_Of (N : Nat) (n0 : Int) : Option (Int) :=
  pIf (decide (n0 < 0))
    (some 1)
    (pIf (decide (n0 = 0))
      (some 2)
      (some 4))
def known_Of (N : Nat) (n0 : Int) : Option (Bool × Int) :=
  some (true, n0)
def span_Of (N : Nat) (n0 : Int) : Option (Int × Int) :=
  some (n0, n0)
def parity_Of (N : Nat) (n0 : Int) : Option (Int) :=
  pCk (decide (0 ≤ (band .i64 n0 1))) <|
  some (shlI .i64 1 (band .i64 n0 1))
def fact_Of (N : Nat) (n0 : Int) : Option (Int × (Bool × Int) × (Int × Int) × Int) :=
  pCall (sign_Of N n0) fun x0 =>
  pCall (known_Of N n0) fun x1 =>
  pCall (span_Of N n0) fun x2 =>
  pCall (parity_Of N n0) fun x3 =>
  some (x0, (x1.1, x1.2), (x2.1, x2.2), x3)
def state_Begin_l4 (N : Nat) (k0 : Bool × (List (Int × (Bool × Int) × (Int × Int) × Int)) × (List (List Int)) × Bool × (List (Int × (Bool × Int) × (Int × Int) × Int)) × List (List Int) → Option (Bool × (List (Int × (Bool × Int) × (Int × Int) × Int)) × List (List Int))) : Nat → (List (Int × (Bool × Int) × (Int × Int) × Int)) → Int → Int → Int → Bool → (List (Int × (Bool × Int) × (Int × Int) × Int)) → (List (List Int)) → Bool → (List (Int × (Bool × Int) × (Int × Int) × Int)) → (List (List Int)) → Option (Bool × (List (Int × (Bool × Int) × (Int × Int) × Int)) × List (List Int))
  | 0, _, _, _, _, _, _, _, _, _, _ => none
  | n + 1, args1, first2, t12, t13, t6_0, t6_1, t6_2, s7_0, s7_1, s7_2 =>
    pIf (decide (t13 < t12))
      (pCall (fact_Of N 0) fun x0 =>
      pJoin (fun (x1 : (List (Int × (Bool × Int) × (Int × Int) × Int)) × Int × Int × Int × Int × Bool × (List (Int × (Bool × Int) × (Int × Int) × Int)) × (List (List Int)) × Bool × (List (Int × (Bool × Int) × (Int × Int) × Int)) × (List (List Int)) × Int × Bool × Int × Int × Int × Int) =>
        pCk (room 48 (len (x1.2.2.2.2.2.2.2.2.2.1 ++ [(x1.2.2.2.2.2.2.2.2.2.2.2.1, (x1.2.2.2.2.2.2.2.2.2.2.2.2.1, x1.2.2.2.2.2.2.2.2.2.2.2.2.2.1), (x1.2.2.2.2.2.2.2.2.2.2.2.2.2.2.1, x1.2.2.2.2.2.2.2.2.2.2.2.2.2.2.2.1), x1.2.2.2.2.2.2.2.2.2.2.2.2.2.2.2.2)]))) <|
        pCk (room 24 (len (x1.2.2.2.2.2.2.2.2.2.2.1 ++ [[(wr .i64 (x1.2.1 + x1.2.2.1))]]))) <|
        state_Begin_l4 N k0 n x1.1 x1.2.1 x1.2.2.2.1 (wr .i64 (x1.2.2.2.2.1 + 1)) x1.2.2.2.2.2.1 x1.2.2.2.2.2.2.1 x1.2.2.2.2.2.2.2.1 x1.2.2.2.2.2.2.2.2.1 (x1.2.2.2.2.2.2.2.2.2.1 ++ [(x1.2.2.2.2.2.2.2.2.2.2.2.1, (x1.2.2.2.2.2.2.2.2.2.2.2.2.1, x1.2.2.2.2.2.2.2.2.2.2.2.2.2.1), (x1.2.2.2.2.2.2.2.2.2.2.2.2.2.2.1, x1.2.2.2.2.2.2.2.2.2.2.2.2.2.2.2.1), x1.2.2.2.2.2.2.2.2.2.2.2.2.2.2.2.2)]) (x1.2.2.2.2.2.2.2.2.2.2.1 ++ [[(wr .i64 (x1.2.1 + x1.2.2.1))]])) fun J1 =>
      pIf (decide (t13 < (len args1)))
        (pIdx args1 t13 fun x2 =>
        J1 (args1, first2, t13, t12, t13, t6_0, t6_1, t6_2, s7_0, s7_1, s7_2, x2.1, x2.2.1.1, x2.2.1.2, x2.2.2.1.1, x2.2.2.1.2, x2.2.2.2))
        (J1 (args1, first2, t13, t12, t13, t6_0, t6_1, t6_2, s7_0, s7_1, s7_2, x0.1, x0.2.1.1, x0.2.1.2, x0.2.2.1.1, x0.2.2.1.2, x0.2.2.2)))
      (k0 (t6_0, t6_1, t6_2, s7_0, s7_1, s7_2))
def state_Begin (N : Nat) (regs0 : Int) (args1 : List (Int × (Bool × Int) × (Int × Int) × Int)) (first2 : Int) : Option (Bool × (List (Int × (Bool × Int) × (Int × Int) × Int)) × List (List Int)) :=
  state_Begin_l4 N
    (fun x0 => some (x0.2.2.2.1, x0.2.2.2.2.1, x0.2.2.2.2.2)) N args1 first2 (mxI regs0 0) 0 false [] [] true [] []
def state_None (N : Nat) : Option (Bool × (List (Int × (Bool × Int) × (Int × Int) × Int)) × List (List Int)) :=
  some (false, [], [])
def bits_Right_l6 (N : Nat) (k0 : Unit → Option (Bool)) (k1 : Bool → Option (Bool)) : Nat → Int → Int → (List Int) → Int → Int → Option (Bool)
  | 0, _, _, _, _, _ => none
  | n + 1, n0, last5, t14, t15, t16 =>
    pIf (decide (t16 < t15))
      (pIdx t14 t16 fun x0 =>
      pLet (pick (decide (x0 ≤ last5)) true (decide (n0 ≤ x0))) fun x1 =>
      pIf x1
        (k1 false)
        (bits_Right_l6 N k0 k1 n n0 x0 t14 t15 (wr .i64 (t16 + 1))))
      (k0 ())
def bits_Right (N : Nat) (n0 : Int) (s1 : List Int) : Option (Bool) :=
  pLet (pick (decide (n0 < 0)) true (decide (4096 < n0))) fun x0 =>
  pIf x0
    (some false)
    (bits_Right_l6 N
      (fun x1 => some true)
      (fun x1 => some x1) N n0 (-1) s1 (len s1) 0)
def slices_IndexFunc_fact_Value_fact_Value_l3 (N : Nat) (k0 : Unit → Option (Int)) (k1 : Int → Option (Int)) : Nat → (List (Int × (Bool × Int) × (Int × Int) × Int)) → ((Int × (Bool × Int) × (Int × Int) × Int) → Option Bool) → Int → Int → Option (Int)
  | 0, _, _, _, _ => none
  | n + 1, s0, f1, t7, t8 =>
    pIf (decide (t8 < t7))
      (pIdx s0 t8 fun x0 =>
      pCall (f1 x0) fun x1 =>
      pIf x1
        (k1 t8)
        (slices_IndexFunc_fact_Value_fact_Value_l3 N k0 k1 n s0 f1 t7 (wr .i64 (t8 + 1))))
      (k0 ())
def slices_IndexFunc_fact_Value_fact_Value (N : Nat) (s0 : List (Int × (Bool × Int) × (Int × Int) × Int)) (f1 : (Int × (Bool × Int) × (Int × Int) × Int) → Option Bool) : Option (Int) :=
  slices_IndexFunc_fact_Value_fact_Value_l3 N
    (fun x0 => some (-1))
    (fun x0 => some x0) N s0 f1 (len s0) 0
def slices_ContainsFunc_fact_Value_fact_Value (N : Nat) (s0 : List (Int × (Bool × Int) × (Int × Int) × Int)) (f1 : (Int × (Bool × Int) × (Int × Int) × Int) → Option Bool) : Option (Bool) :=
  pCall (slices_IndexFunc_fact_Value_fact_Value N s0 f1) fun x0 =>
  some (decide (0 ≤ x0))
def sign_Right (N : Nat) (s0 : Int) : Option (Bool) :=
  pLet (pick (decide (1 ≤ s0)) (decide (s0 ≤ 7)) false) fun x0 =>
  some x0
def known_Known_tidy (N : Nat) (k0 : Bool × Int) : Option (Bool × Int) :=
  pJoin (fun (x0 : Bool × Int × Bool × Int) =>
    some (x0.1, x0.2.1)) fun J0 =>
  pIf (!k0.1)
    (J0 (k0.1, 0, false, 0))
    (J0 (k0.1, k0.2, false, 0))
def known_Right (N : Nat) (k0 : Bool × Int) : Option (Bool) :=
  pCall (known_Known_tidy N (k0.1, k0.2)) fun x0 =>
  some (((k0.1 == x0.1) && decide (k0.2 = x0.2)))
def span_Right (N : Nat) (s0 : Int × Int) : Option (Bool) :=
  some (decide (s0.1 ≤ s0.2))
def parity_Right (N : Nat) (p0 : Int) : Option (Bool) :=
  pLet (pick (decide (1 ≤ p0)) (decide (p0 ≤ 3)) false) fun x0 =>
  some x0
def fact_Right (N : Nat) (v0 : Int × (Bool × Int) × (Int × Int) × Int) : Option (Bool) :=
  pCall (sign_Right N v0.1) fun x0 =>
  pCallG x0 false (known_Right N (v0.2.1.1, v0.2.1.2)) fun x1 =>
  pLet (pick x0 x1 false) fun x2 =>
  pCallG x2 false (span_Right N (v0.2.2.1.1, v0.2.2.1.2)) fun x3 =>
  pLet (pick x2 x3 false) fun x4 =>
  pCallG x4 false (parity_Right N v0.2.2.2) fun x5 =>
  pLet (pick x4 x5 false) fun x6 =>
  some x6
def state_Right_1 (N : Nat) (v0 : Int × (Bool × Int) × (Int × Int) × Int) : Option (Bool) :=
  pCall (fact_Right N (v0.1, (v0.2.1.1, v0.2.1.2), (v0.2.2.1.1, v0.2.2.1.2), v0.2.2.2)) fun x0 =>
  some (!x0)
def state_Right_l7 (N : Nat) (k0 : Bool × (List (Int × (Bool × Int) × (Int × Int) × Int)) × List (List Int) → Option (Bool)) (k1 : Bool → Option (Bool)) : Nat → Int → (List (List Int)) → Int → Int → Bool → (List (Int × (Bool × Int) × (Int × Int) × Int)) → (List (List Int)) → Option (Bool)
  | 0, _, _, _, _, _, _, _ => none
  | n + 1, sites2, t25, t26, t27, s3_0, s3_1, s3_2 =>
    pIf (decide (t27 < t26))
      (pIdx t25 t27 fun x0 =>
      pCall (bits_Right N sites2 x0) fun x1 =>
      pIf (!x1)
        (k1 false)
        (state_Right_l7 N k0 k1 n sites2 t25 t26 (wr .i64 (t27 + 1)) s3_0 s3_1 s3_2))
      (k0 (s3_0, s3_1, s3_2))
def state_Right (N : Nat) (s0 : Bool × (List (Int × (Bool × Int) × (Int × Int) × Int)) × List (List Int)) (regs1 : Int) (sites2 : Int) : Option (Bool) :=
  pJoin (fun (x0 : Int × Int × Bool × (List (Int × (Bool × Int) × (Int × Int) × Int)) × List (List Int)) =>
    pLet (pick (!decide ((len x0.2.2.2.1) = x0.1)) true (!decide ((len x0.2.2.2.2) = x0.1))) fun x1 =>
    pIf x1
      (some false)
      (state_Right_l7 N
        (fun x2 => pCall (slices_ContainsFunc_fact_Value_fact_Value N x2.2.1 (fun x => state_Right_1 N x)) fun x3 =>
          some (!x3))
        (fun x2 => some x2) N x0.2.1 x0.2.2.2.2 (len x0.2.2.2.2) 0 x0.2.2.1 x0.2.2.2.1 x0.2.2.2.2)) fun J0 =>
  pIf (!s0.1)
    (J0 (0, sites2, s0.1, s0.2.1, s0.2.2))
    (J0 (regs1, sites2, s0.1, s0.2.1, s0.2.2))
def avermentlaw13_told (N : Nat) : Option (Bool) :=
  pCall (fact_Any N) fun x0 =>
  pCall (state_Begin N 2 [x0] 5) fun x1 =>
  pLet (pick x1.1 (decide ((len x1.2.1) = 2)) false) fun x2 =>
  pLet (pick x2 (decide ((len x1.2.2) = 2)) false) fun x3 =>
  pIdxG x3 (0, (false, 0), (0, 0), 0) x1.2.1 1 fun x4 =>
  pCallG x3 (0, (false, 0), (0, 0), 0) (fact_Of N 0) fun x5 =>
  pLet (pick x3 ((decide (x4.1 = x5.1) && (((x4.2.1.1 == x5.2.1.1) && decide (x4.2.1.2 = x5.2.1.2)) && ((decide (x4.2.2.1.1 = x5.2.2.1.1) && decide (x4.2.2.1.2 = x5.2.2.1.2)) && decide (x4.2.2.2 = x5.2.2.2))))) false) fun x6 =>
  pIdxG x6 [] x1.2.2 1 fun x7 =>
  pLet (pick x6 (decide ((len x7) = 1)) false) fun x8 =>
  pIdxG x8 [] x1.2.2 1 fun x9 =>
  pIdxG x8 0 x9 0 fun x10 =>
  pLet (pick x8 (decide (x10 = 6)) false) fun x11 =>
  pCallG x11 (false, [], []) (state_None N) fun x12 =>
  pLet (pick x11 (!x12.1) false) fun x13 =>
  pCallG x13 false (state_Right N (x1.1, x1.2.1, x1.2.2) 2 7) fun x14 =>
  pLet (pick x13 x14 false) fun x15 =>
  pCallG x15 false (state_Right N (x1.1, x1.2.1, x1.2.2) 2 6) fun x16 =>
  pLet (pick x15 (!x16) false) fun x17 =>
  some x17
def avermentref13_Regs (N : Nat) (s0 : Bool × (List (Int × (Bool × Int) × (Int × Int) × Int)) × List (List Int)) : Option (Int) :=
  some (mnI (len s0.2.1) (len s0.2.2))
def avermentref09_Clean (N : Nat) (k0 : Bool × Int) : Option (Bool × Int) :=
  pIf (!k0.1)
    (some (false, 0))
    (some (k0.1, k0.2))
def avermentref10_Fix (N : Nat) (s0 : Int × Int) : Option (Int × Int) :=
  pIf (decide (s0.2 < s0.1))
    (some (s0.2, s0.1))
    (some (s0.1, s0.2))
def avermentref12_Fix (N : Nat) (v0 : Int × (Bool × Int) × (Int × Int) × Int) : Option (Int × (Bool × Int) × (Int × Int) × Int) :=
  pJoin (fun (x0 : Int × Bool × Int × Int × Int × Int × Int × Bool × Int × Int × Int × Int) =>
    pJoin (fun (x1 : Int × Bool × Int × Int × Int × Int × Int × Bool × Int × Int × Int × Int) =>
      pCall (avermentref09_Clean N (x1.2.1, x1.2.2.1)) fun x2 =>
      pCall (avermentref10_Fix N (x1.2.2.2.1, x1.2.2.2.2.1)) fun x3 =>
      some (x1.1, (x2.1, x2.2), (x3.1, x3.2), x1.2.2.2.2.2.1)) fun J1 =>
    pIf (decide ((band .i64 x0.2.2.2.2.2.1 3) = 0))
      (J1 (x0.1, x0.2.1, x0.2.2.1, x0.2.2.2.1, x0.2.2.2.2.1, 3, x0.2.2.2.2.2.2.1, x0.2.2.2.2.2.2.2.1, x0.2.2.2.2.2.2.2.2.1, x0.2.2.2.2.2.2.2.2.2.1, x0.2.2.2.2.2.2.2.2.2.2.1, x0.2.2.2.2.2.2.2.2.2.2.2))
      (J1 (x0.1, x0.2.1, x0.2.2.1, x0.2.2.2.1, x0.2.2.2.2.1, (band .i64 x0.2.2.2.2.2.1 3), x0.2.2.2.2.2.2.1, x0.2.2.2.2.2.2.2.1, x0.2.2.2.2.2.2.2.2.1, x0.2.2.2.2.2.2.2.2.2.1, x0.2.2.2.2.2.2.2.2.2.2.1, x0.2.2.2.2.2.2.2.2.2.2.2))) fun J0 =>
  pIf (decide ((band .i64 v0.1 7) = 0))
    (J0 (7, v0.2.1.1, v0.2.1.2, v0.2.2.1.1, v0.2.2.1.2, v0.2.2.2, 0, false, 0, 0, 0, 0))
    (J0 ((band .i64 v0.1 7), v0.2.1.1, v0.2.1.2, v0.2.2.1.1, v0.2.2.1.2, v0.2.2.2, 0, false, 0, 0, 0, 0))
def avermentref04_Rise_l7 (N : Nat) (k0 : (List Int) × Int × Int × List Int → Option (List Int)) : Nat → (List Int) → Int → Int → (List Int) → Option (List Int)
  | 0, _, _, _, _ => none
  | n + 1, l0, i4, at5, out3 =>
    pCk (!(decide (at5 < (len out3))) || ((decide (0 ≤ at5)) && (decide (at5 < (len out3))))) <|
    pIdxG (decide (at5 < (len out3))) 0 out3 at5 fun x0 =>
    pIdxG (decide (at5 < (len out3))) 0 l0 i4 fun x1 =>
    pLet (pick (decide (at5 < (len out3))) (decide (x0 < x1)) false) fun x2 =>
    pIf x2
      (avermentref04_Rise_l7 N k0 n l0 i4 (wr .i64 (at5 + 1)) out3)
      (k0 (l0, i4, at5, out3))
def avermentref04_Rise_l4 (N : Nat) (k0 : List Int → Option (List Int)) : Nat → (List Int) → Int → (List Int) → Option (List Int)
  | 0, _, _, _ => none
  | n + 1, l0, i4, out3 =>
    pIf (decide (i4 < (len l0)))
      (pJoin (fun (x0 : (List Int) × Int × List Int) =>
        avermentref04_Rise_l4 N k0 n x0.1 (wr .i64 (x0.2.1 + 1)) x0.2.2) fun J0 =>
      avermentref04_Rise_l7 N
        (fun x1 => pCk (!(decide (x1.2.2.1 < (len x1.2.2.2))) || ((decide (0 ≤ x1.2.2.1)) && (decide (x1.2.2.1 < (len x1.2.2.2))))) <|
          pIdxG (decide (x1.2.2.1 < (len x1.2.2.2))) 0 x1.2.2.2 x1.2.2.1 fun x2 =>
          pIdxG (decide (x1.2.2.1 < (len x1.2.2.2))) 0 x1.1 x1.2.1 fun x3 =>
          pLet (pick (decide (x1.2.2.1 < (len x1.2.2.2))) (decide (x2 = x3)) false) fun x4 =>
          pIf x4
            (J0 (x1.1, x1.2.1, x1.2.2.2))
            (pIdx x1.1 x1.2.1 fun x5 =>
            pCk ((decide (0 ≤ x1.2.2.1)) && (decide (x1.2.2.1 ≤ (len x1.2.2.2)))) <|
            pCk ((decide (0 ≤ 0)) && (decide (0 ≤ x1.2.2.1))) <|
            pCk (room 8 (len ([] ++ (sub x1.2.2.2 0 x1.2.2.1)))) <|
            pCk (room 8 (len (([] ++ (sub x1.2.2.2 0 x1.2.2.1)) ++ [x5]))) <|
            pCk ((decide (0 ≤ (len x1.2.2.2))) && (decide ((len x1.2.2.2) ≤ (len x1.2.2.2)))) <|
            pCk ((decide (0 ≤ x1.2.2.1)) && (decide (x1.2.2.1 ≤ (len x1.2.2.2)))) <|
            pCk (room 8 (len ((([] ++ (sub x1.2.2.2 0 x1.2.2.1)) ++ [x5]) ++ (sub x1.2.2.2 x1.2.2.1 (len x1.2.2.2))))) <|
            J0 (x1.1, x1.2.1, ((([] ++ (sub x1.2.2.2 0 x1.2.2.1)) ++ [x5]) ++ (sub x1.2.2.2 x1.2.2.1 (len x1.2.2.2)))))) N l0 i4 0 out3)
      (k0 out3)
def avermentref04_Rise (N : Nat) (l0 : List Int) : Option (List Int) :=
  avermentref04_Rise_l4 N
    (fun x0 => some x0) N l0 0 []
def avermentref13_Fix_l10 (N : Nat) (k0 : Int × Int × Int × Bool × (List (Int × (Bool × Int) × (Int × Int) × Int)) × (List (List Int)) × Bool × (List (Int × (Bool × Int) × (Int × Int) × Int)) × (List (List Int)) × Bool × (List (Int × (Bool × Int) × (Int × Int) × Int)) × (List (List Int)) × List Int → Option (Bool × (List (Int × (Bool × Int) × (Int × Int) × Int)) × List (List Int))) : Nat → Int → Int → Int → Int → Bool → (List (Int × (Bool × Int) × (Int × Int) × Int)) → (List (List Int)) → Bool → (List (Int × (Bool × Int) × (Int × Int) × Int)) → (List (List Int)) → Bool → (List (Int × (Bool × Int) × (Int × Int) × Int)) → (List (List Int)) → (List Int) → Option (Bool × (List (Int × (Bool × Int) × (Int × Int) × Int)) × List (List Int))
  | 0, _, _, _, _, _, _, _, _, _, _, _, _, _, _ => none
  | n + 1, regs1, sites2, r8, i10, s3_0, s3_1, s3_2, t6_0, t6_1, t6_2, out7_0, out7_1, out7_2, l9 =>
    pIdx s3_2 r8 fun x0 =>
    pLet (pick (decide (i10 < (len x0))) (decide (i10 < 60)) false) fun x1 =>
    pIf x1
      (pIdx s3_2 r8 fun x2 =>
      pIdx x2 i10 fun x3 =>
      pCk (!decide ((wr .u64 sites2) = 0)) <|
      pCk (room 8 (len (l9 ++ [(wr .i64 (remI (wr .u64 x3) (wr .u64 sites2)))]))) <|
      avermentref13_Fix_l10 N k0 n regs1 sites2 r8 (wr .i64 (i10 + 1)) s3_0 s3_1 s3_2 t6_0 t6_1 t6_2 out7_0 out7_1 out7_2 (l9 ++ [(wr .i64 (remI (wr .u64 x3) (wr .u64 sites2)))]))
      (k0 (regs1, sites2, r8, s3_0, s3_1, s3_2, t6_0, t6_1, t6_2, out7_0, out7_1, out7_2, l9))
def avermentref13_Fix_l6 (N : Nat) (k0 : Bool × (List (Int × (Bool × Int) × (Int × Int) × Int)) × (List (List Int)) × Bool × (List (Int × (Bool × Int) × (Int × Int) × Int)) × List (List Int) → Option (Bool × (List (Int × (Bool × Int) × (Int × Int) × Int)) × List (List Int))) : Nat → Int → Int → Int → Bool → (List (Int × (Bool × Int) × (Int × Int) × Int)) → (List (List Int)) → Bool → (List (Int × (Bool × Int) × (Int × Int) × Int)) → (List (List Int)) → Bool → (List (Int × (Bool × Int) × (Int × Int) × Int)) → (List (List Int)) → Option (Bool × (List (Int × (Bool × Int) × (Int × Int) × Int)) × List (List Int))
  | 0, _, _, _, _, _, _, _, _, _, _, _, _ => none
  | n + 1, regs1, sites2, r8, s3_0, s3_1, s3_2, t6_0, t6_1, t6_2, out7_0, out7_1, out7_2 =>
    pCall (avermentref13_Regs N (s3_0, s3_1, s3_2)) fun x0 =>
    pLet (pick (decide (r8 < x0)) (decide (r8 < regs1)) false) fun x1 =>
    pIf x1
      (avermentref13_Fix_l10 N
        (fun x2 => pIdx x2.2.2.2.2.1 x2.2.2.1 fun x3 =>
          pCall (avermentref12_Fix N x3) fun x4 =>
          pCk (room 48 (len (x2.2.2.2.2.2.2.2.2.2.2.1 ++ [x4]))) <|
          pCall (avermentref04_Rise N x2.2.2.2.2.2.2.2.2.2.2.2.2) fun x5 =>
          pCk (room 24 (len (x2.2.2.2.2.2.2.2.2.2.2.2.1 ++ [x5]))) <|
          avermentref13_Fix_l6 N k0 n x2.1 x2.2.1 (wr .i64 (x2.2.2.1 + 1)) x2.2.2.2.1 x2.2.2.2.2.1 x2.2.2.2.2.2.1 x2.2.2.2.2.2.2.1 x2.2.2.2.2.2.2.2.1 x2.2.2.2.2.2.2.2.2.1 x2.2.2.2.2.2.2.2.2.2.1 (x2.2.2.2.2.2.2.2.2.2.2.1 ++ [x4]) (x2.2.2.2.2.2.2.2.2.2.2.2.1 ++ [x5])) N regs1 sites2 r8 0 s3_0 s3_1 s3_2 t6_0 t6_1 t6_2 out7_0 out7_1 out7_2 [])
      (k0 (t6_0, t6_1, t6_2, out7_0, out7_1, out7_2))
def avermentref13_Fix (N : Nat) (s0 : Bool × (List (Int × (Bool × Int) × (Int × Int) × Int)) × List (List Int)) (regs1 : Int) (sites2 : Int) : Option (Bool × (List (Int × (Bool × Int) × (Int × Int) × Int)) × List (List Int)) :=
  pIf (!s0.1)
    (some (false, [], []))
    (avermentref13_Fix_l6 N
      (fun x0 => some (x0.2.2.2.1, x0.2.2.2.2.1, x0.2.2.2.2.2)) N regs1 sites2 0 s0.1 s0.2.1 s0.2.2 false [] [] true [] [])
def avermentlaw13_fix (N : Nat) (s0 : Bool × (List (Int × (Bool × Int) × (Int × Int) × Int)) × List (List Int)) : Option (Bool × (List (Int × (Bool × Int) × (Int × Int) × Int)) × List (List Int)) :=
  pCall (avermentref13_Fix N (s0.1, s0.2.1, s0.2.2) 6 70) fun x0 =>
  some (x0.1, x0.2.1, x0.2.2)
def avermentlaw09_To (N : Nat) (k0 : Bool × Int) : Option (Bool × Int) :=
  some (k0.1, k0.2)
def avermentlaw10_To (N : Nat) (s0 : Int × Int) : Option (Int × Int) :=
  some (s0.1, s0.2)
def avermentlaw12_To (N : Nat) (v0 : Int × (Bool × Int) × (Int × Int) × Int) : Option (Int × (Bool × Int) × (Int × Int) × Int) :=
  pCall (avermentlaw09_To N (v0.2.1.1, v0.2.1.2)) fun x0 =>
  pCall (avermentlaw10_To N (v0.2.2.1.1, v0.2.2.1.2)) fun x1 =>
  some (v0.1, (x0.1, x0.2), (x1.1, x1.2), v0.2.2.2)
def avermentlaw13_To_l4 (N : Nat) (k0 : Bool × (List (Int × (Bool × Int) × (Int × Int) × Int)) × (List (List Int)) × Bool × (List (Int × (Bool × Int) × (Int × Int) × Int)) × (List (List Int)) × Bool × (List (Int × (Bool × Int) × (Int × Int) × Int)) × List (List Int) → Option (Bool × (List (Int × (Bool × Int) × (Int × Int) × Int)) × List (List Int))) : Nat → Int → Bool → (List (Int × (Bool × Int) × (Int × Int) × Int)) → (List (List Int)) → Bool → (List (Int × (Bool × Int) × (Int × Int) × Int)) → (List (List Int)) → Bool → (List (Int × (Bool × Int) × (Int × Int) × Int)) → (List (List Int)) → Option (Bool × (List (Int × (Bool × Int) × (Int × Int) × Int)) × List (List Int))
  | 0, _, _, _, _, _, _, _, _, _, _ => none
  | n + 1, r4, s1_0, s1_1, s1_2, t2_0, t2_1, t2_2, out3_0, out3_1, out3_2 =>
    pIf (decide (r4 < (len s1_1)))
      (pIdx s1_1 r4 fun x0 =>
      pCall (avermentlaw12_To N x0) fun x1 =>
      pCk (room 48 (len (out3_1 ++ [x1]))) <|
      avermentlaw13_To_l4 N k0 n (wr .i64 (r4 + 1)) s1_0 s1_1 s1_2 t2_0 t2_1 t2_2 out3_0 (out3_1 ++ [x1]) out3_2)
      (k0 (s1_0, s1_1, s1_2, t2_0, t2_1, t2_2, out3_0, out3_1, out3_2))
def avermentlaw13_To_l8 (N : Nat) (k0 : Bool × (List (Int × (Bool × Int) × (Int × Int) × Int)) × (List (List Int)) × Bool × (List (Int × (Bool × Int) × (Int × Int) × Int)) × List (List Int) → Option (Bool × (List (Int × (Bool × Int) × (Int × Int) × Int)) × List (List Int))) : Nat → Int → Bool → (List (Int × (Bool × Int) × (Int × Int) × Int)) → (List (List Int)) → Bool → (List (Int × (Bool × Int) × (Int × Int) × Int)) → (List (List Int)) → Bool → (List (Int × (Bool × Int) × (Int × Int) × Int)) → (List (List Int)) → Option (Bool × (List (Int × (Bool × Int) × (Int × Int) × Int)) × List (List Int))
  | 0, _, _, _, _, _, _, _, _, _, _ => none
  | n + 1, r5, s1_0, s1_1, s1_2, t2_0, t2_1, t2_2, out3_0, out3_1, out3_2 =>
    pIf (decide (r5 < (len s1_2)))
      (pIdx s1_2 r5 fun x0 =>
      pCk (room 8 (len ([] ++ x0))) <|
      pCk (room 24 (len (out3_2 ++ [([] ++ x0)]))) <|
      avermentlaw13_To_l8 N k0 n (wr .i64 (r5 + 1)) s1_0 s1_1 s1_2 t2_0 t2_1 t2_2 out3_0 out3_1 (out3_2 ++ [([] ++ x0)]))
      (k0 (t2_0, t2_1, t2_2, out3_0, out3_1, out3_2))
def avermentlaw13_To (N : Nat) (s0 : Bool × (List (Int × (Bool × Int) × (Int × Int) × Int)) × List (List Int)) : Option (Bool × (List (Int × (Bool × Int) × (Int × Int) × Int)) × List (List Int)) :=
  avermentlaw13_To_l4 N
    (fun x0 => avermentlaw13_To_l8 N
        (fun x1 => some (x1.2.2.2.1, x1.2.2.2.2.1, x1.2.2.2.2.2)) N 0 x0.1 x0.2.1 x0.2.2.1 x0.2.2.2.1 x0.2.2.2.2.1 x0.2.2.2.2.2.1 x0.2.2.2.2.2.2.1 x0.2.2.2.2.2.2.2.1 x0.2.2.2.2.2.2.2.2) N 0 s0.1 s0.2.1 s0.2.2 false [] [] s0.1 [] []
def avermentref12_Right (N : Nat) (v0 : Int × (Bool × Int) × (Int × Int) × Int) : Option (Bool) :=
  pLet (pick (decide (1 ≤ v0.1)) (decide (v0.1 ≤ 7)) false) fun x0 =>
  pLet (pick v0.2.1.1 true (decide (v0.2.1.2 = 0))) fun x1 =>
  pLet (pick x0 x1 false) fun x2 =>
  pLet (pick x2 (decide (v0.2.2.1.1 ≤ v0.2.2.1.2)) false) fun x3 =>
  pLet (pick x3 (decide (1 ≤ v0.2.2.2)) false) fun x4 =>
  pLet (pick x4 (decide (v0.2.2.2 ≤ 3)) false) fun x5 =>
  some x5
def avermentref03_Right_l5 (N : Nat) (k0 : Unit → Option (Bool)) (k1 : Bool → Option (Bool)) : Nat → Int → (List Int) → Int → Option (Bool)
  | 0, _, _, _ => none
  | n + 1, n0, s1, i5 =>
    pIf (decide (i5 < (len s1)))
      (pIdx s1 i5 fun x0 =>
      pIdxG (!(decide (x0 < 0))) 0 s1 i5 fun x1 =>
      pLet (pick (decide (x0 < 0)) true (decide (n0 ≤ x1))) fun x2 =>
      pIdxG ((!x2) && (decide (0 < i5))) 0 s1 i5 fun x3 =>
      pIdxG ((!x2) && (decide (0 < i5))) 0 s1 (wr .i64 (i5 - 1)) fun x4 =>
      pLet (pick (decide (0 < i5)) (decide (x3 ≤ x4)) false) fun x5 =>
      pLet (pick x2 true x5) fun x6 =>
      pIf x6
        (k1 false)
        (avermentref03_Right_l5 N k0 k1 n n0 s1 (wr .i64 (i5 + 1))))
      (k0 ())
def avermentref03_Right (N : Nat) (n0 : Int) (s1 : List Int) : Option (Bool) :=
  pLet (pick (decide (n0 < 0)) true (decide (4096 < n0))) fun x0 =>
  pIf x0
    (some false)
    (avermentref03_Right_l5 N
      (fun x1 => some true)
      (fun x1 => some x1) N n0 s1 0)
def avermentref13_Right_l7 (N : Nat) (k0 : Unit → Option (Bool)) (k1 : Bool → Option (Bool)) : Nat → Int → Int → Int → Bool → (List (Int × (Bool × Int) × (Int × Int) × Int)) → (List (List Int)) → Option (Bool)
  | 0, _, _, _, _, _, _ => none
  | n + 1, regs1, sites2, r7, s3_0, s3_1, s3_2 =>
    pIf (decide (r7 < regs1))
      (pIdx s3_1 r7 fun x0 =>
      pCall (avermentref12_Right N x0) fun x1 =>
      pIdxG (!(!x1)) [] s3_2 r7 fun x2 =>
      pCallG (!(!x1)) false (avermentref03_Right N sites2 x2) fun x3 =>
      pLet (pick (!x1) true (!x3)) fun x4 =>
      pIf x4
        (k1 false)
        (avermentref13_Right_l7 N k0 k1 n regs1 sites2 (wr .i64 (r7 + 1)) s3_0 s3_1 s3_2))
      (k0 ())
def avermentref13_Right (N : Nat) (s0 : Bool × (List (Int × (Bool × Int) × (Int × Int) × Int)) × List (List Int)) (regs1 : Int) (sites2 : Int) : Option (Bool) :=
  pIf (!s0.1)
    (pLet (pick (decide ((len s0.2.1) = 0)) (decide ((len s0.2.2) = 0)) false) fun x0 =>
    some x0)
    (pLet (pick (!decide ((len s0.2.1) = regs1)) true (!decide ((len s0.2.2) = regs1))) fun x0 =>
    pIf x0
      (some false)
      (avermentref13_Right_l7 N
        (fun x1 => some true)
        (fun x1 => some x1) N regs1 sites2 0 s0.1 s0.2.1 s0.2.2))
def avermentlaw13_StateRight_l5 (N : Nat) (k0 : Int × Int × Bool × (List (Int × (Bool × Int) × (Int × Int) × Int)) × List (List Int) → Option (Bool)) (k1 : Bool → Option (Bool)) : Nat → Int → Int → Int → Bool → (List (Int × (Bool × Int) × (Int × Int) × Int)) → (List (List Int)) → Option (Bool)
  | 0, _, _, _, _, _, _ => none
  | n + 1, regs1, sites2, i7, s3_0, s3_1, s3_2 =>
    pIf (decide (i7 < (len s3_2)))
      (pIdx s3_2 i7 fun x0 =>
      pIf (decide (100 < (len x0)))
        (pCall (avermentlaw13_told N) fun x1 =>
        k1 x1)
        (avermentlaw13_StateRight_l5 N k0 k1 n regs1 sites2 (wr .i64 (i7 + 1)) s3_0 s3_1 s3_2))
      (k0 (regs1, sites2, s3_0, s3_1, s3_2))
def avermentlaw13_StateRight (N : Nat) (s0 : Bool × (List (Int × (Bool × Int) × (Int × Int) × Int)) × List (List Int)) (regs1 : Int) (sites2 : Int) : Option (Bool) :=
  pLet (pick (decide (40 < (len s0.2.1))) true (decide (40 < (len s0.2.2)))) fun x0 =>
  pIf x0
    (pCall (avermentlaw13_told N) fun x1 =>
    some x1)
    (avermentlaw13_StateRight_l5 N
      (fun x1 => pCall (avermentlaw13_fix N (x1.2.2.1, x1.2.2.2.1, x1.2.2.2.2)) fun x2 =>
        pCall (avermentlaw13_told N) fun x3 =>
        pCallG x3 (false, [], []) (avermentlaw13_To N (x1.2.2.1, x1.2.2.2.1, x1.2.2.2.2)) fun x4 =>
        pCallG x3 false (state_Right N x4 x1.1 x1.2.1) fun x5 =>
        pCallG x3 false (avermentref13_Right N (x1.2.2.1, x1.2.2.2.1, x1.2.2.2.2) x1.1 x1.2.1) fun x6 =>
        pLet (pick x3 ((x5 == x6)) false) fun x7 =>
        pCallG x7 (false, [], []) (avermentlaw13_To N (x2.1, x2.2.1, x2.2.2)) fun x8 =>
        pCallG x7 false (state_Right N x8 (len x2.2.1) 70) fun x9 =>
        pLet (pick x7 x9 false) fun x10 =>
        some x10)
      (fun x1 => some x1) N regs1 sites2 0 s0.1 s0.2.1 s0.2.2)
def avermentref08_Of (N : Nat) (n0 : Int) : Option (Int) :=
  pIf (decide (n0 < 0))
    (some 1)
    (pIf (decide (n0 = 0))
      (some 2)
      (some 4))
def avermentref11_Of (N : Nat) (n0 : Int) : Option (Int) :=
  pIf (decide ((remI n0 2) = 0))
    (some 1)
    (some 2)
def avermentref12_Of (N : Nat) (n0 : Int) : Option (Int × (Bool × Int) × (Int × Int) × Int) :=
  pCall (avermentref08_Of N n0) fun x0 =>
  pCall (avermentref11_Of N n0) fun x1 =>
  some (x0, (true, n0), (n0, n0), x1)
def avermentref13_Begin_l4 (N : Nat) (k0 : Bool × (List (Int × (Bool × Int) × (Int × Int) × Int)) × (List (List Int)) × Bool × (List (Int × (Bool × Int) × (Int × Int) × Int)) × List (List Int) → Option (Bool × (List (Int × (Bool × Int) × (Int × Int) × Int)) × List (List Int))) : Nat → Int → (List (Int × (Bool × Int) × (Int × Int) × Int)) → Int → Int → Bool → (List (Int × (Bool × Int) × (Int × Int) × Int)) → (List (List Int)) → Bool → (List (Int × (Bool × Int) × (Int × Int) × Int)) → (List (List Int)) → Option (Bool × (List (Int × (Bool × Int) × (Int × Int) × Int)) × List (List Int))
  | 0, _, _, _, _, _, _, _, _, _, _ => none
  | n + 1, regs0, args1, first2, r8, t6_0, t6_1, t6_2, s7_0, s7_1, s7_2 =>
    pIf (decide (r8 < regs0))
      (pCall (avermentref12_Of N 0) fun x0 =>
      pJoin (fun (x1 : Int × (List (Int × (Bool × Int) × (Int × Int) × Int)) × Int × Int × Bool × (List (Int × (Bool × Int) × (Int × Int) × Int)) × (List (List Int)) × Bool × (List (Int × (Bool × Int) × (Int × Int) × Int)) × (List (List Int)) × Int × Bool × Int × Int × Int × Int) =>
        pCk (room 48 (len (x1.2.2.2.2.2.2.2.2.1 ++ [(x1.2.2.2.2.2.2.2.2.2.2.1, (x1.2.2.2.2.2.2.2.2.2.2.2.1, x1.2.2.2.2.2.2.2.2.2.2.2.2.1), (x1.2.2.2.2.2.2.2.2.2.2.2.2.2.1, x1.2.2.2.2.2.2.2.2.2.2.2.2.2.2.1), x1.2.2.2.2.2.2.2.2.2.2.2.2.2.2.2)]))) <|
        pCk (room 24 (len (x1.2.2.2.2.2.2.2.2.2.1 ++ [[(wr .i64 (x1.2.2.1 + x1.2.2.2.1))]]))) <|
        avermentref13_Begin_l4 N k0 n x1.1 x1.2.1 x1.2.2.1 (wr .i64 (x1.2.2.2.1 + 1)) x1.2.2.2.2.1 x1.2.2.2.2.2.1 x1.2.2.2.2.2.2.1 x1.2.2.2.2.2.2.2.1 (x1.2.2.2.2.2.2.2.2.1 ++ [(x1.2.2.2.2.2.2.2.2.2.2.1, (x1.2.2.2.2.2.2.2.2.2.2.2.1, x1.2.2.2.2.2.2.2.2.2.2.2.2.1), (x1.2.2.2.2.2.2.2.2.2.2.2.2.2.1, x1.2.2.2.2.2.2.2.2.2.2.2.2.2.2.1), x1.2.2.2.2.2.2.2.2.2.2.2.2.2.2.2)]) (x1.2.2.2.2.2.2.2.2.2.1 ++ [[(wr .i64 (x1.2.2.1 + x1.2.2.2.1))]])) fun J1 =>
      pIf (decide (r8 < (len args1)))
        (pIdx args1 r8 fun x2 =>
        J1 (regs0, args1, first2, r8, t6_0, t6_1, t6_2, s7_0, s7_1, s7_2, x2.1, x2.2.1.1, x2.2.1.2, x2.2.2.1.1, x2.2.2.1.2, x2.2.2.2))
        (J1 (regs0, args1, first2, r8, t6_0, t6_1, t6_2, s7_0, s7_1, s7_2, x0.1, x0.2.1.1, x0.2.1.2, x0.2.2.1.1, x0.2.2.1.2, x0.2.2.2)))
      (k0 (t6_0, t6_1, t6_2, s7_0, s7_1, s7_2))
def avermentref13_Begin (N : Nat) (regs0 : Int) (args1 : List (Int × (Bool × Int) × (Int × Int) × Int)) (first2 : Int) : Option (Bool × (List (Int × (Bool × Int) × (Int × Int) × Int)) × List (List Int)) :=
  avermentref13_Begin_l4 N
    (fun x0 => some (x0.2.2.2.1, x0.2.2.2.2.1, x0.2.2.2.2.2)) N regs0 args1 first2 0 false [] [] true [] []
def avermentlaw09_From (N : Nat) (k0 : Bool × Int) : Option (Bool × Int) :=
  some (k0.1, k0.2)
def avermentlaw10_From (N : Nat) (s0 : Int × Int) : Option (Int × Int) :=
  some (s0.1, s0.2)
def avermentlaw12_From (N : Nat) (v0 : Int × (Bool × Int) × (Int × Int) × Int) : Option (Int × (Bool × Int) × (Int × Int) × Int) :=
  pCall (avermentlaw09_From N (v0.2.1.1, v0.2.1.2)) fun x0 =>
  pCall (avermentlaw10_From N (v0.2.2.1.1, v0.2.2.1.2)) fun x1 =>
  some (v0.1, (x0.1, x0.2), (x1.1, x1.2), v0.2.2.2)
def avermentlaw13_From_l4 (N : Nat) (k0 : Bool × (List (Int × (Bool × Int) × (Int × Int) × Int)) × (List (List Int)) × Bool × (List (Int × (Bool × Int) × (Int × Int) × Int)) × (List (List Int)) × Bool × (List (Int × (Bool × Int) × (Int × Int) × Int)) × List (List Int) → Option (Bool × (List (Int × (Bool × Int) × (Int × Int) × Int)) × List (List Int))) : Nat → Int → Bool → (List (Int × (Bool × Int) × (Int × Int) × Int)) → (List (List Int)) → Bool → (List (Int × (Bool × Int) × (Int × Int) × Int)) → (List (List Int)) → Bool → (List (Int × (Bool × Int) × (Int × Int) × Int)) → (List (List Int)) → Option (Bool × (List (Int × (Bool × Int) × (Int × Int) × Int)) × List (List Int))
  | 0, _, _, _, _, _, _, _, _, _, _ => none
  | n + 1, r4, s1_0, s1_1, s1_2, t2_0, t2_1, t2_2, out3_0, out3_1, out3_2 =>
    pIf (decide (r4 < (len s1_1)))
      (pIdx s1_1 r4 fun x0 =>
      pCall (avermentlaw12_From N x0) fun x1 =>
      pCk (room 48 (len (out3_1 ++ [x1]))) <|
      avermentlaw13_From_l4 N k0 n (wr .i64 (r4 + 1)) s1_0 s1_1 s1_2 t2_0 t2_1 t2_2 out3_0 (out3_1 ++ [x1]) out3_2)
      (k0 (s1_0, s1_1, s1_2, t2_0, t2_1, t2_2, out3_0, out3_1, out3_2))
def avermentlaw13_From_l8 (N : Nat) (k0 : Bool × (List (Int × (Bool × Int) × (Int × Int) × Int)) × (List (List Int)) × Bool × (List (Int × (Bool × Int) × (Int × Int) × Int)) × List (List Int) → Option (Bool × (List (Int × (Bool × Int) × (Int × Int) × Int)) × List (List Int))) : Nat → Int → Bool → (List (Int × (Bool × Int) × (Int × Int) × Int)) → (List (List Int)) → Bool → (List (Int × (Bool × Int) × (Int × Int) × Int)) → (List (List Int)) → Bool → (List (Int × (Bool × Int) × (Int × Int) × Int)) → (List (List Int)) → Option (Bool × (List (Int × (Bool × Int) × (Int × Int) × Int)) × List (List Int))
  | 0, _, _, _, _, _, _, _, _, _, _ => none
  | n + 1, r5, s1_0, s1_1, s1_2, t2_0, t2_1, t2_2, out3_0, out3_1, out3_2 =>
    pIf (decide (r5 < (len s1_2)))
      (pIdx s1_2 r5 fun x0 =>
      pCk (room 8 (len ([] ++ x0))) <|
      pCk (room 24 (len (out3_2 ++ [([] ++ x0)]))) <|
      avermentlaw13_From_l8 N k0 n (wr .i64 (r5 + 1)) s1_0 s1_1 s1_2 t2_0 t2_1 t2_2 out3_0 out3_1 (out3_2 ++ [([] ++ x0)]))
      (k0 (t2_0, t2_1, t2_2, out3_0, out3_1, out3_2))
def avermentlaw13_From (N : Nat) (s0 : Bool × (List (Int × (Bool × Int) × (Int × Int) × Int)) × List (List Int)) : Option (Bool × (List (Int × (Bool × Int) × (Int × Int) × Int)) × List (List Int)) :=
  avermentlaw13_From_l4 N
    (fun x0 => avermentlaw13_From_l8 N
        (fun x1 => some (x1.2.2.2.1, x1.2.2.2.2.1, x1.2.2.2.2.2)) N 0 x0.1 x0.2.1 x0.2.2.1 x0.2.2.2.1 x0.2.2.2.2.1 x0.2.2.2.2.2.1 x0.2.2.2.2.2.2.1 x0.2.2.2.2.2.2.2.1 x0.2.2.2.2.2.2.2.2) N 0 s0.1 s0.2.1 s0.2.2 false [] [] s0.1 [] []
def avermentref01_Same_l5 (N : Nat) (k0 : Unit → Option (Bool)) (k1 : Bool → Option (Bool)) : Nat → (List Int) → (List Int) → Int → Option (Bool)
  | 0, _, _, _ => none
  | n + 1, a0, b1, i5 =>
    pIf (decide (i5 < (len a0)))
      (pIdx a0 i5 fun x0 =>
      pIdx b1 i5 fun x1 =>
      pIf (!decide (x0 = x1))
        (k1 false)
        (avermentref01_Same_l5 N k0 k1 n a0 b1 (wr .i64 (i5 + 1))))
      (k0 ())
def avermentref01_Same (N : Nat) (a0 : List Int) (b1 : List Int) : Option (Bool) :=
  pIf (!decide ((len a0) = (len b1)))
    (some false)
    (avermentref01_Same_l5 N
      (fun x0 => some true)
      (fun x0 => some x0) N a0 b1 0)
def avermentref13_Equal_l5 (N : Nat) (k0 : Bool × (List (Int × (Bool × Int) × (Int × Int) × Int)) × (List (List Int)) × Bool × (List (Int × (Bool × Int) × (Int × Int) × Int)) × List (List Int) → Option (Bool)) (k1 : Bool → Option (Bool)) : Nat → Int → Bool → (List (Int × (Bool × Int) × (Int × Int) × Int)) → (List (List Int)) → Bool → (List (Int × (Bool × Int) × (Int × Int) × Int)) → (List (List Int)) → Option (Bool)
  | 0, _, _, _, _, _, _, _ => none
  | n + 1, r5, a2_0, a2_1, a2_2, b3_0, b3_1, b3_2 =>
    pIf (decide (r5 < (len a2_1)))
      (pIdx a2_1 r5 fun x0 =>
      pIdx b3_1 r5 fun x1 =>
      pIf (!((decide (x0.1 = x1.1) && (((x0.2.1.1 == x1.2.1.1) && decide (x0.2.1.2 = x1.2.1.2)) && ((decide (x0.2.2.1.1 = x1.2.2.1.1) && decide (x0.2.2.1.2 = x1.2.2.1.2)) && decide (x0.2.2.2 = x1.2.2.2))))))
        (k1 false)
        (avermentref13_Equal_l5 N k0 k1 n (wr .i64 (r5 + 1)) a2_0 a2_1 a2_2 b3_0 b3_1 b3_2))
      (k0 (a2_0, a2_1, a2_2, b3_0, b3_1, b3_2))
def avermentref13_Equal_l10 (N : Nat) (k0 : Unit → Option (Bool)) (k1 : Bool → Option (Bool)) : Nat → Int → Bool → (List (Int × (Bool × Int) × (Int × Int) × Int)) → (List (List Int)) → Bool → (List (Int × (Bool × Int) × (Int × Int) × Int)) → (List (List Int)) → Option (Bool)
  | 0, _, _, _, _, _, _, _ => none
  | n + 1, r6, a2_0, a2_1, a2_2, b3_0, b3_1, b3_2 =>
    pIf (decide (r6 < (len a2_2)))
      (pIdx a2_2 r6 fun x0 =>
      pIdx b3_2 r6 fun x1 =>
      pCall (avermentref01_Same N x0 x1) fun x2 =>
      pIf (!x2)
        (k1 false)
        (avermentref13_Equal_l10 N k0 k1 n (wr .i64 (r6 + 1)) a2_0 a2_1 a2_2 b3_0 b3_1 b3_2))
      (k0 ())
def avermentref13_Equal (N : Nat) (a0 : Bool × (List (Int × (Bool × Int) × (Int × Int) × Int)) × List (List Int)) (b1 : Bool × (List (Int × (Bool × Int) × (Int × Int) × Int)) × List (List Int)) : Option (Bool) :=
  pLet (pick (!((a0.1 == b1.1))) true (!decide ((len a0.2.1) = (len b1.2.1)))) fun x0 =>
  pLet (pick x0 true (!decide ((len a0.2.2) = (len b1.2.2)))) fun x1 =>
  pIf x1
    (some false)
    (avermentref13_Equal_l5 N
      (fun x2 => avermentref13_Equal_l10 N
          (fun x3 => some true)
          (fun x3 => some x3) N 0 x2.1 x2.2.1 x2.2.2.1 x2.2.2.2.1 x2.2.2.2.2.1 x2.2.2.2.2.2)
      (fun x2 => some x2) N 0 a0.1 a0.2.1 a0.2.2 b1.1 b1.2.1 b1.2.2)
def avermentlaw13_same (N : Nat) (s0 : Bool × (List (Int × (Bool × Int) × (Int × Int) × Int)) × List (List Int)) (want1 : Bool × (List (Int × (Bool × Int) × (Int × Int) × Int)) × List (List Int)) : Option (Bool) :=
  pCall (avermentlaw13_From N (s0.1, s0.2.1, s0.2.2)) fun x0 =>
  pCall (avermentref13_Equal N x0 (want1.1, want1.2.1, want1.2.2)) fun x1 =>
  some x1
def avermentlaw13_StateBegins_l8 (N : Nat) (k0 : Int × Int × (List (Int × (Bool × Int) × (Int × Int) × Int)) × Int × (List (Int × (Bool × Int) × (Int × Int) × Int)) × List (Int × (Bool × Int) × (Int × Int) × Int) → Option (Bool)) : Nat → Int → Int → Int → (List (Int × (Bool × Int) × (Int × Int) × Int)) → Int → (List (Int × (Bool × Int) × (Int × Int) × Int)) → (List (Int × (Bool × Int) × (Int × Int) × Int)) → Option (Bool)
  | 0, _, _, _, _, _, _, _ => none
  | n + 1, n3, i6, x1_0, x1_1, x1_2, vals4, own5 =>
    pLet (pick (decide (i6 < (len x1_1))) (decide (i6 < 20)) false) fun x0 =>
    pIf x0
      (pIdx x1_1 i6 fun x1 =>
      pCall (avermentref12_Fix N x1) fun x2 =>
      pCk (room 48 (len (vals4 ++ [x2]))) <|
      pIdx x1_1 i6 fun x3 =>
      pCall (avermentref12_Fix N x3) fun x4 =>
      pCall (avermentlaw12_To N x4) fun x5 =>
      pCk (room 48 (len (own5 ++ [x5]))) <|
      avermentlaw13_StateBegins_l8 N k0 n n3 (wr .i64 (i6 + 1)) x1_0 x1_1 x1_2 (vals4 ++ [x2]) (own5 ++ [x5]))
      (k0 (n3, x1_0, x1_1, x1_2, vals4, own5))
def avermentlaw13_StateBegins (N : Nat) (x0 : Int × (List (Int × (Bool × Int) × (Int × Int) × Int)) × Int) : Option (Bool) :=
  pJoin (fun (x0 : Int × Int × (List (Int × (Bool × Int) × (Int × Int) × Int)) × Int) =>
    avermentlaw13_StateBegins_l8 N
      (fun x1 => pCall (avermentlaw13_told N) fun x2 =>
        pCallG x2 (false, [], []) (state_Begin N x1.1 x1.2.2.2.2.2 (wr .i64 (remI (wr .u64 x1.2.2.2.1) 4000))) fun x3 =>
        pCallG x2 (false, [], []) (avermentref13_Begin N x1.1 x1.2.2.2.2.1 (wr .i64 (remI (wr .u64 x1.2.2.2.1) 4000))) fun x4 =>
        pCallG x2 false (avermentlaw13_same N x3 x4) fun x5 =>
        pLet (pick x2 x5 false) fun x6 =>
        some x6) N x0.1 0 x0.2.1 x0.2.2.1 x0.2.2.2 [] []) fun J0 =>
  pIf (decide (20 < x0.1))
    (J0 (20, x0.1, x0.2.1, x0.2.2))
    (J0 (x0.1, x0.1, x0.2.1, x0.2.2))
end Go.Y
