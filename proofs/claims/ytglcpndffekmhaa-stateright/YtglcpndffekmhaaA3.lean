/- What the proof of the statement stands on, part 3. -/
import Derived.Test.YtglcpndffekmhaaA2
import Derived.Test.YtglcpndffekmhaaA0
import Derived.KernelRfl
import Derived.Test.YtglcpndffekmhaaProg
import GoSem.ClaimJoined
import Derived.ChangeOld
import Derived.ChangeArms
import Derived.SizedLaws
import Derived.WalkKit
import Derived.ProofKit
import Derived.OpenShut
import Derived.ShutString
import Derived.Carry
namespace Go.Y
open Go.Eng (T RepT RepM SRep Kept Base G SameOn VRep Split Live Free kn Owns ownB RootOk ERep HPred)
variable {P : Program} {I : Ids} {φ : FnP} {β : Base} {nt : Nat} {cs : List (Nat × Con)} {tb : Tabs}
variable {all : List Oper} {ah : List (List Nat)} {rs : List (Rec L)} {st : St L}
variable {a b : List (Rec L)} {R : Rec L} {S : Nat → Bool} {o : Oper} {ahd : List Nat} {gd : Option (Gd L)} {σ : St L}
theorem does_of (hop : ∀ β, OpOk P I φ β nt cs ([] : List (Nat × LoopC (St L))) tb) {stc st' : St L} (hd : ∀ d, o.dst = some d → d < nt) (hself : selfOk gd o.dst = true) (h : opS cs tb stc gd o = some st') : ∀ β, Does P I φ β nt o stc gd st' := by
  intro β
  obtain ⟨x, h1, h2⟩ := hop β o stc gd some st' hd hself h
  cases h1
  exact h2
theorem chain_sub {gnv : List (Nat × (Nat × Bool) × AV L)} : ∀ (n : Nat) {l : List Nat} {s : Nat}, s ∈ l → s ∈ chain gnv n l
  | 0, _, _, h => h
  | n + 1, l, s, h => by simp only [chain, List.mem_append]; exact .inl h
theorem fp_slots (all : List Oper) (σ : St L) (o : Oper) {s : Nat} (h : s ∈ slotsOf o.op.operands.toList) : s ∈ (fpOf tb all σ o).sl := chain_sub 8 (List.mem_append_left _ h)
def valS (rs : List (Rec L)) (st : St L) (S : Rec L → Bool) (k : Nat) : Option (Root L) :=
  match lastW (fun R => S R && wks k R) rs with | some R => get R.st.sto k | none => get st.sto k
theorem valS_congr {S S' : Rec L → Bool} {k : Nat} (h : ∀ R ∈ rs, (S R && wks k R) = (S' R && wks k R)) : valS rs st S k = valS rs st S' k := by
  unfold valS; rw [lastW_congr h]
theorem DRun.soft_roots (h : DRun cs tb all ah rs st) (hsw : SoftWr cs tb) (he : rs = a ++ R :: b) (hG : Good cs tb all ah a (foldM a st) R o ahd gd) (hd : Down ah S) (hS0 : S R.i = false) (hah : ∀ j ∈ ahd, S j = true)
    (hS : Sp rs st (fun R => S R.i) σ) {k : Nat} (hk : k ∈ R.f.ks) {r : Root L} (hr : get (foldM a st).sto k = some r) : ∃ r', get σ.sto k = some r' ∧ SoftR r r' := by
  have claim : ∀ (n : Nat) (b1 b2 : List (Rec L)), b1.length = n → b = b1 ++ b2 → ∃ r', valS rs st (fun R' => S R'.i && memN R'.i ((a ++ R :: b1).map (·.i))) k = some r' ∧ SoftR r r' := by
    intro n
    induction n with
    | zero =>
      intro b1 b2 hn hb
      have : b1 = [] := List.eq_nil_of_length_eq_zero hn
      subst this
      refine ⟨r, ?_, .refl r⟩
      rw [valS_congr (S' := fun R' => S R'.i && memN R'.i (a.map (·.i)))]
      · unfold valS
        rw [h.lw_roots he hG hah hk]
        have := (h.canon a (R :: b) he).sto k
        rw [hr] at this
        exact this.symm
      · intro R' hR'
        by_cases hi : R'.i = R.i
        · rw [hi, hS0]; rfl
        · have : memN R'.i ((a ++ [R]).map (·.i)) = memN R'.i (a.map (·.i)) := by
            rw [Bool.eq_iff_iff]
            simp only [memN_iff, List.map_append, List.map_cons, List.map_nil, List.mem_append, List.mem_singleton, hi, or_false]
          simp only [this]
    | succ n ih =>
      intro b1 b2 hn hb
      rcases List.eq_nil_or_concat b1 with rfl | ⟨b1', R', hcc⟩
      · simp at hn
      · rw [List.concat_eq_append] at hcc
        subst hcc
        obtain ⟨r1, h1, h2⟩ := ih b1' (R' :: b2) (by simpa using hn) (by rw [hb]; simp)
        have he' : rs = (a ++ R :: b1') ++ R' :: b2 := by rw [he, hb]; simp
        obtain ⟨hA1, hA2, hA3⟩ := h.inA he'
        have hmem : ∀ R0 : Rec L, R0.i ≠ R'.i → memN R0.i ((a ++ R :: (b1' ++ [R'])).map (·.i)) = memN R0.i ((a ++ R :: b1').map (·.i)) := by
          intro R0 hi
          rw [Bool.eq_iff_iff]
          simp only [memN_iff, List.map_append, List.map_cons, List.map_nil, List.mem_append, List.mem_cons, List.mem_singleton, hi]
          simp
        have hmem' : memN R'.i ((a ++ R :: (b1' ++ [R'])).map (·.i)) = true := memN_iff.2 (List.mem_map.2 ⟨R', by simp, rfl⟩)
        by_cases hw : S R'.i = true ∧ wks k R' = true
        · obtain ⟨hS', hw⟩ := hw
          have hkw := memN_iff.1 hw
          obtain ⟨o', ahd', gd', hG'⟩ := h.good _ R' b2 he'
          have h3 : get (foldM (a ++ R :: b1') st).sto k = some r1 := by
            rw [(h.canon _ (R' :: b2) he').sto, ← h.lw_roots he' hG' (hd _ hS' ahd' hG'.ahead) (wks_ks hkw)]
            exact h1
          have hbR : R' ∈ b := by rw [hb]; simp
          rcases h.later he hd hS0 hbR hS' with h4 | ⟨h4, h5, a', o2, ahd2, gd2, hG2, h6⟩
          · exact absurd hk ((apart_spec h4).2.2 k hkw)
          · have ho : o2 = o' := by have := hG2.op; rw [hG'.op] at this; cases this; rfl
            subst ho
            have hdst : o2.dst ≠ some k := fun e => (apartS_spec h5).2 k (by rw [hG'.dst]; exact e) hk
            obtain ⟨r2, h7, h8⟩ := hsw o2 gd' _ _ h6 hG'.run k r1 hdst (by simp only [cutF, get_keepSto, if_pos (wks_ks hkw)]; exact h3)
            refine ⟨r2, ?_, h2.trans h8⟩
            unfold valS
            rw [lastW_at he' (by simp only [hS', hmem', hw, Bool.and_self]) fun R0 hR0 => ?_]
            · exact h7
            · show ((S R0.i && memN R0.i ((a ++ R :: (b1' ++ [R'])).map (·.i))) && wks k R0) = false
              rw [hmem R0 ((h.notin he').2 R0 hR0), hA3 R0 hR0]; simp
        · refine ⟨r1, ?_, h2⟩
          rw [← h1]
          refine valS_congr fun R0 hR0 => ?_
          by_cases hi : R0.i = R'.i
          · have := h.inj hR0 (by rw [he']; simp) hi
            subst this
            rw [hA2, hmem']
            cases hS' : S R0.i with
            | false => rfl
            | true =>
              cases hw' : wks k R0 with
              | false => rfl
              | true => exact absurd ⟨hS', hw'⟩ hw
          · rw [hmem R0 hi]
  obtain ⟨r', h1, h2⟩ := claim b.length b [] rfl (by simp)
  refine ⟨r', ?_, h2⟩
  rw [hS.sto, ← h1]
  change valS rs st (fun R => S R.i) k = _
  refine valS_congr fun R0 hR0 => ?_
  have : memN R0.i ((a ++ R :: b).map (·.i)) = true := memN_iff.2 (List.mem_map.2 ⟨R0, by rw [← he]; exact hR0, rfl⟩)
  simp only [this, Bool.and_true]
end Go.Y
namespace Go.Y
open Go.Eng (T RepT RepM SRep Kept Base G SameOn VRep Split Live Free kn Owns ownB RootOk ERep HPred)
variable {P : Program} {I : Ids} {φ : FnP} {β : Base} {nt : Nat} {cs : List (Nat × Con)} {tb : Tabs}
variable {ah : List (List Nat)} {rs : List (Rec L)} {st : St L} {ops : Array Oper}
variable {a b : List (Rec L)} {R : Rec L} {S : Nat → Bool} {o : Oper} {ahd : List Nat} {gd : Option (Gd L)} {σ : St L}
theorem relG_less {f : Fp} {g : G} {ac : Act} {w : World} (hR : RelG P I φ β nt σ g ac w) : RelG P I φ β nt ⟨keepEnv f.sl σ.env, keepGnv f.sl σ.gnv, σ.sto⟩ g ac w := by
  refine ⟨hR.defers, hR.size, hR.i.env _ _, fun s x hx => ?_, fun s k b x hx => ?_⟩
  · simp only [get_keepEnv] at hx
    split at hx
    · obtain ⟨u, hu, h⟩ := hR.e s x hx
      exact ⟨u, hu, h.env _ _⟩
    · cases hx
  · rw [mem_keepGnv] at hx
    obtain ⟨u, hu, h, hn⟩ := hR.n s k b x hx.2
    exact ⟨u, hu, fun hk => (h hk).env _ _, hn⟩
theorem wp_of_does {pins : List (Nat × Value)} {Q : Exit → Act → World → Prop} {K : Act → World → Prop} {i : Nat} {stc st' : St L} {g : G} {ac : Act} {w : World}
    (ho : ops[i]? = some o) (hdst : dstOk nt (pins.map (·.1)) o = true) (hR : RelG P I φ β nt stc g ac w) (hp : Pin pins ac) (hg : @guardV L (semL cs) ops.toList stc o.guard = some gd)
    (hD : Does P I φ β nt o stc gd st')
    (hK : ∀ g' ac' w', Pass P I φ stc g w st' g' w' → RelG P I φ β nt st' g' ac' w' → (∀ s, o.dst ≠ some s → ac'.tmps[s]? = ac.tmps[s]?) → Pin pins ac' → K ac' w') : wpOp P ops Q i K ac w := by
  obtain ⟨h2, h3, h4⟩ := wanted_ok hR hg
  unfold wpOp
  rw [ho]
  simp only
  split
  · rename_i hw
    exact .inl (hD.run ac w g hR h2 (h3 hw) _ _ fun ac' w' g' hpass hR' ht => hK g' ac' w' hpass hR' ht (dstOk_pin hdst ht hp))
  · rename_i hw
    obtain ⟨gd', hgd, hoff⟩ := h4 (by simpa using hw)
    obtain ⟨g', hpass, hR'⟩ := hD.skip ac w g gd' hgd hR h2 hoff
    exact hK g' _ w hpass hR' (fun s hs => put_ne ac undef hs) (dstOk_pin hdst (fun s hs => put_ne ac undef hs) hp)
theorem DRun.run_op (hop : ∀ β, OpOk P I φ β nt cs ([] : List (Nat × LoopC (St L))) tb) (hsr : SoftOk P I φ nt cs tb) (hsw : SoftWr cs tb) (hst : StaysOk cs tb)
    {pins : List (Nat × Value)} (hdst : ∀ o ∈ ops.toList, dstOk nt (pins.map (·.1)) o = true) (h : DRun cs tb ops.toList ah rs st) (he : rs = a ++ R :: b) (hG : Good cs tb ops.toList ah a (foldM a st) R o ahd gd)
    (hd : Down ah S) (hS0 : S R.i = false) (hah : ∀ j ∈ ahd, S j = true) (hS : Sp rs st (fun R => S R.i) σ) {g : G} {ac : Act} {w : World} (hR : RelG P I φ β nt σ g ac w) (hp : Pin pins ac)
    {Q : Exit → Act → World → Prop} {K : Act → World → Prop}
    (hK : ∀ σ' g' ac' w', Sp rs st (fun R' => ins S R.i R'.i) σ' → RelG P I φ β nt σ' g' ac' w' → Pin pins ac' → K ac' w') : wpOp P ops Q R.i K ac w := by
  have hl : ∀ R' ∈ b, S R'.i = true → SlotsApart R.f R'.f := fun R' hR' hS' => later_slots (h.later he hd hS0 hR' hS')
  have hkey := h.keys_ok he hS hS0 hl
  have hmg := mergeF_mg hG.sin hkey
  have hstep := h.step he hS hmg (fun R' hR' hS' s hs => (hl R' hR' hS').b s hs) (fun R' hR' hS' k hk hk' => by
    rcases h.later he hd hS0 hR' hS' with h4 | h4
    · exact (apart_spec h4).2.1 k hk (wks_ks hk')
    · rw [hG.soft_wks h4.1] at hk; simp at hk)
  have hop' : ops[R.i]? = some o := by
    have := hG.op
    rw [getL_eq] at this
    rw [← Array.getElem?_toList]
    exact this
  have hdo := hdst o hG.mem
  have hdd := hG.dst
  have hrin : RootsIn R.f (foldM a st) := by rw [hG.fp]; exact fp_roots _ _ _
  have hcl := closed_iff hG.closed
  cases hsoft : R.soft with
  | false =>
    have hAg := h.ag he hG hd hS0 hah hS hsoft
    have hclσ : Closed R.f.ks σ := fun k r c l hk hr hc hcl' => hcl k r c l hk (by rw [← hAg.sto k hk]; exact hr) hc hcl'
    have hrinσ : RootsIn R.f σ := by
      intro s hs x hx k hk
      refine hrin s hs x ?_ k hk
      rcases hx with hx | ⟨kk, hx⟩
      · exact .inl (by rw [← hAg.env s hs]; exact hx)
      · exact .inr ⟨kk, (hAg.gnv s hs (kk, x)).1 hx⟩
    have hcut := cutF_ag hAg
    have hRc := relG_view hcut (relG_part hR hclσ hrinσ)
    refine wp_of_does hop' hdo hRc hp hG.guard (does_of hop (dstOk_lt hdo) hG.self hG.run _) fun g' ac' w' hpass hR' ht hp' => ?_
    obtain ⟨g'', _, h9⟩ := relG_merge hR hclσ (st' := R.st) (g' := g') (a' := ac') (w' := w')
      ⟨fun x u hx => hpass.a x u (arep_view (fun k => hcut.sto k trivial) (hx.env _ _)), hpass.F, hpass.same, hpass.size⟩ hR' hG.sin hkey (fun s hs => ht s (by rw [← hdd]; exact hs)) hmg (fun hw k hk => by
        have h10 : readOnly tb o.op = true ∨ stays (foldM a st) o.op = true := by
          rw [hG.fp] at hw
          simp only [fpOf, Bool.not_eq_false', Bool.or_eq_true] at hw
          exact hw
        have h11 : get R.st.sto k = get (cutF R.f (foldM a st)).sto k := by
          rcases h10 with h10 | h10
          · rw [opS_readOnly h10 hG.run]
          · exact hst o gd _ _ (stays_cut h10 (fun s hs => by rw [hG.fp]; exact fp_slots _ _ _ hs) hrin) hG.run k
        rw [h11, hAg.sto k hk]
        simp only [cutF, get_keepSto, if_pos hk])
    exact hK _ g'' ac' w' hstep h9 hp'
  | true =>
    have hwk := hG.soft_wks hsoft
    have hslot : ∀ s ∈ R.f.sl, get σ.env s = get (foldM a st).env s ∧ ∀ e, (s, e) ∈ σ.gnv ↔ (s, e) ∈ (foldM a st).gnv := by
      intro s hs
      have hc := h.canon a (R :: b) he
      exact ⟨by rw [hS.env, hc.env, h.lw_slots he hG hd hS0 hah hs], fun e => by rw [hS.gnv, hc.gnv, h.lw_slots he hG hd hS0 hah hs]⟩
    have hRl : RelG P I φ β nt ⟨(cutF R.f (foldM a st)).env, (cutF R.f (foldM a st)).gnv, σ.sto⟩ g ac w := by
      have hRl0 := relG_less (f := R.f) hR
      have hag : Ag all1 all1 (⟨keepEnv R.f.sl σ.env, keepGnv R.f.sl σ.gnv, σ.sto⟩ : St L) ⟨(cutF R.f (foldM a st)).env, (cutF R.f (foldM a st)).gnv, σ.sto⟩ := by
        refine ⟨fun s _ => ?_, fun s _ e => ?_, fun k _ => rfl⟩
        · simp only [cutF, get_keepEnv]
          split
          · exact (hslot s ‹_›).1
          · rfl
        · simp only [cutF, mem_keepGnv]
          constructor
          · rintro ⟨h1, h2⟩; exact ⟨h1, ((hslot s h1).2 e).1 h2⟩
          · rintro ⟨h1, h2⟩; exact ⟨h1, ((hslot s h1).2 e).2 h2⟩
      exact relG_view hag hRl0
    obtain ⟨st2, h5, h6, h7⟩ := hsr o gd _ R.st σ.sto (dstOk_lt hdo) hG.self (by rw [← hG.soft]; exact hsoft) hG.run (fun k r hr => by
      simp only [cutF, get_keepSto] at hr
      split at hr
      · exact h.soft_roots hsw he hG hd hS0 hah hS ‹_› hr
      · cases hr)
    have hguard : @guardV L (semL cs) ops.toList ⟨(cutF R.f (foldM a st)).env, (cutF R.f (foldM a st)).gnv, σ.sto⟩ o.guard = some gd := by
      have : ∀ (n d : Nat) (wt : Bool), @guardG L (semL cs) ⟨(cutF R.f (foldM a st)).env, (cutF R.f (foldM a st)).gnv, σ.sto⟩ n d wt = @guardG L (semL cs) (cutF R.f (foldM a st)) n d wt := by
        intro n
        induction n with
        | zero => intro d wt; rfl
        | succ n ih => intro d wt; simp only [guardG, ih]
      rw [← hG.guard]
      unfold guardV
      simp only [this]
    refine wp_of_does hop' hdo hRl hp hguard (h7 β) fun g' ac' w' hpass hR' ht hp' => ?_
    have hv : ∀ k, get st2.sto k = get (mergeF R.f σ R.st).sto k := fun k => by rw [hmg.sto, hwk, h5]; simp
    refine hK _ g' ac' w' hstep ⟨hR'.defers, hR'.size, inv_view hv hR'.i, fun s x hx => ?_, fun s k kb x hx => ?_⟩ hp'
    · rw [hmg.env] at hx
      split at hx
      · rename_i hds
        rw [hdd] at hds
        obtain ⟨u, hu, h8⟩ := hR'.e s x (by rw [(h6 s hds).1]; exact hx)
        exact ⟨u, hu, arep_view hv h8⟩
      · rename_i hds
        obtain ⟨u, hu, h8⟩ := hR.e s x hx
        exact ⟨u, by rw [ht s (by rw [← hdd]; exact hds)]; exact hu, arep_view hv (hpass.a x u (h8.env _ _))⟩
    · rw [hmg.gnv] at hx
      split at hx
      · rename_i hds
        rw [hdd] at hds
        obtain ⟨u, hu, h8, h9⟩ := hR'.n s k kb x (mem_of_get (by rw [(h6 s hds).2]; exact hx.2))
        exact ⟨u, hu, fun hk => arep_view hv (h8 hk), h9⟩
      · rename_i hds
        obtain ⟨u, hu, h8, h9⟩ := hR.n s k kb x hx
        have hk : o.dst ≠ some k := fun e => hkey k (by rw [hdd]; exact e) _ hx rfl
        exact ⟨u, by rw [ht s (by rw [← hdd]; exact hds)]; exact hu, fun hb => arep_view hv (hpass.a x u ((h8 (by rw [← ht k hk]; exact hb)).env _ _)), fun hb => h9 (by rw [← ht k hk]; exact hb)⟩
end Go.Y
namespace Go.Y
open Go.Eng (T RepT RepM SRep Kept Base G SameOn VRep Split Live Free kn Owns ownB RootOk ERep HPred)
variable {P : Program} {I : Ids} {φ : FnP} {β : Base} {nt : Nat} {cs : List (Nat × Con)} {tb : Tabs}
theorem allIn_iff {m : List Nat} : ∀ {l : List Nat}, allIn l m = true ↔ ∀ k ∈ l, k ∈ m
  | [] => by simp [allIn]
  | k :: l => by simp [allIn, allIn_iff (l := l), memN_iff]
theorem mem_addN {j k : Nat} {l : List Nat} : j ∈ addN k l ↔ j ∈ l ∨ j = k := by
  unfold addN
  split
  · rename_i h
    constructor
    · exact .inl
    · rintro (h1 | rfl)
      · exact h1
      · exact memN_iff.1 h
  · simp
theorem mem_unionN {j : Nat} : ∀ {l m : List Nat}, j ∈ unionN l m ↔ j ∈ l ∨ j ∈ m
  | [], m => by simp [unionN]
  | k :: l, m => by
    simp only [unionN, mem_unionN (l := l), mem_addN, List.mem_cons]
    constructor
    · rintro (h | h | h)
      · exact .inl (.inr h)
      · exact .inr h
      · exact .inl (.inl h)
    · rintro ((h | h) | h)
      · exact .inr (.inr h)
      · exact .inl h
      · exact .inr (.inl h)
theorem mem_aheadS {acc : List (List Nat)} {j : Nat} : ∀ {l : List Nat}, j ∈ aheadS acc l ↔ ∃ d ∈ l, j = d ∨ ∃ m, getL acc d = some m ∧ j ∈ m
  | [] => by simp [aheadS]
  | d :: l => by
    simp only [aheadS, mem_addN, mem_unionN, mem_aheadS (l := l), List.mem_cons]
    constructor
    · rintro ((h | ⟨d', h1, h2⟩) | rfl)
      · cases hg : getL acc d with
        | none => rw [hg] at h; simp at h
        | some m => rw [hg] at h; exact ⟨d, .inl rfl, .inr ⟨m, hg, h⟩⟩
      · exact ⟨d', .inr h1, h2⟩
      · exact ⟨j, .inl rfl, .inl rfl⟩
    · rintro ⟨d', rfl | h1, h2⟩
      · rcases h2 with rfl | ⟨m, h3, h4⟩
        · exact .inr rfl
        · exact .inl (.inl (by rw [h3]; exact h4))
      · exact .inl (.inr ⟨d', h1, h2⟩)
def directs (o : Oper) : List Nat := (o.after.toList.filter fun e => Region.binds .any e).map (·.on)
theorem aheadOf_spec : ∀ (ops : List Oper) (acc : List (List Nat)), (∀ i, i < acc.length → (aheadOf acc ops)[i]? = acc[i]?) ∧
    ∀ (i : Nat) o, ops[i]? = some o → ∃ ahd, (aheadOf acc ops)[acc.length + i]? = some ahd ∧ (∀ d ∈ directs o, d ∈ ahd) ∧ ∀ j ∈ ahd, ∃ d ∈ directs o, j = d ∨ ∃ m, (aheadOf acc ops)[d]? = some m ∧ j ∈ m
  | [], acc => ⟨fun i _ => rfl, fun i o h => by simp at h⟩
  | o0 :: ops, acc => by
    have hd : (List.filter (fun e => Region.binds Region.Mode.any e) o0.after.toList).map (·.on) = directs o0 := rfl
    obtain ⟨h1, h2⟩ := aheadOf_spec ops (acc ++ [aheadS acc (directs o0)])
    have hpre : ∀ i, i < acc.length → (aheadOf acc (o0 :: ops))[i]? = acc[i]? := by
      intro i hi
      simp only [aheadOf]
      rw [hd, h1 i (by simp; omega), List.getElem?_append_left hi]
    refine ⟨hpre, fun i o ho => ?_⟩
    cases i with
    | zero =>
      simp only [List.getElem?_cons_zero, Option.some.injEq] at ho
      subst ho
      refine ⟨aheadS acc (directs o0), ?_, fun d hd' => mem_aheadS.2 ⟨d, hd', .inl rfl⟩, fun j hj => ?_⟩
      · simp only [aheadOf]
        rw [hd, h1 _ (by simp)]
        simp
      · obtain ⟨d, h3, h4⟩ := mem_aheadS.1 hj
        refine ⟨d, h3, h4.imp id fun ⟨m, h5, h6⟩ => ⟨m, ?_, h6⟩⟩
        rw [getL_eq] at h5
        rw [hpre d (List.getElem?_eq_some_iff.1 h5).1]
        exact h5
    | succ i =>
      obtain ⟨ahd, h3, h4, h5⟩ := h2 i o (by simpa using ho)
      refine ⟨ahd, ?_, h4, h5⟩
      simp only [aheadOf]
      rw [hd, ← h3]
      congr 1
      simp
      omega
theorem orderOk_spec {ah : List (List Nat)} {n : Nat} : ∀ (l done : List Nat), orderOk ah n l done = true → l.Nodup ∧ (∀ x ∈ l, x ∉ done) ∧
    (∀ a i b, l = a ++ i :: b → ∀ ahd, getL ah i = some ahd → ∀ j ∈ ahd, j ∈ a ∨ j ∈ done) ∧ ∀ i, i < n → i ∈ l ∨ i ∈ done
  | [], done, h => ⟨List.nodup_nil, fun x hx => by simp at hx, fun a i b e => by simp at e, fun i hi => .inr (allIn_iff.1 h i (List.mem_range.2 hi))⟩
  | i :: l, done, h => by
    simp only [orderOk, Bool.and_eq_true, Bool.not_eq_true'] at h
    obtain ⟨h1, h2, h3⟩ := h
    have hi : i ∉ done := fun hm => by rw [memN_iff.2 hm] at h1; cases h1
    obtain ⟨h4, h5, h6, h7⟩ := orderOk_spec l (i :: done) h3
    refine ⟨List.nodup_cons.2 ⟨fun hm => h5 i hm (by simp), h4⟩, fun x hx => ?_, fun a i' b e ahd ha j hj => ?_, fun k hk => ?_⟩
    · rcases List.mem_cons.1 hx with rfl | hx
      · exact hi
      · exact fun hm => h5 x hx (by simp [hm])
    · cases a with
      | nil =>
        simp only [List.nil_append, List.cons.injEq] at e
        obtain ⟨rfl, rfl⟩ := e
        rw [ha] at h2
        exact .inr (allIn_iff.1 h2 j hj)
      | cons x a =>
        simp only [List.cons_append, List.cons.injEq] at e
        obtain ⟨rfl, e⟩ := e
        rcases h6 a i' b e ahd ha j hj with h8 | h8
        · exact .inl (by simp [h8])
        · rcases List.mem_cons.1 h8 with rfl | h8
          · exact .inl (by simp)
          · exact .inr h8
    · rcases h7 k hk with h8 | h8
      · exact .inl (by simp [h8])
      · rcases List.mem_cons.1 h8 with rfl | h8
        · exact .inl (by simp)
        · exact .inr h8
theorem first_not {p : Rec L → Bool} : ∀ {rs : List (Rec L)}, (∀ R ∈ rs, p R = true) ∨ ∃ a R b, rs = a ++ R :: b ∧ (∀ R' ∈ a, p R' = true) ∧ p R = false
  | [] => .inl fun R h => by simp at h
  | R :: rs => by
    cases hp : p R with
    | false => exact .inr ⟨[], R, rs, rfl, fun R' h => by simp at h, hp⟩
    | true =>
      rcases first_not (p := p) (rs := rs) with h | ⟨a, R', b, h1, h2, h3⟩
      · left
        intro R' h'
        rcases List.mem_cons.1 h' with rfl | h'
        · exact hp
        · exact h R' h'
      · refine .inr ⟨R :: a, R', b, by rw [h1]; rfl, ?_, h3⟩
        intro R2 h'
        rcases List.mem_cons.1 h' with rfl | h'
        · exact hp
        · exact h2 R2 h'
def lst (listed : Array Bool) (i : Nat) : Bool := listed.getD i false
theorem lst_set {listed : Array Bool} {i : Nat} (hi : i < listed.size) (j : Nat) : lst (listed.setIfInBounds i true) j = ins (lst listed) i j := by
  unfold lst ins
  simp only [Array.getD_eq_getD_getElem?, Array.getElem?_setIfInBounds]
  by_cases h : i = j
  · subst h; simp [hi]
  · have : Nat.beq j i = false := by
      cases hb : Nat.beq j i with
      | false => rfl
      | true => exact absurd (Nat.eq_of_beq_eq_true hb).symm h
    simp [h, this]
theorem mem_ready {ops : Array Oper} {listed : Array Bool} {i : Nat} (hs : listed.size = ops.size) : i ∈ Region.ready .any ops listed ↔ i < ops.size ∧ lst listed i = false ∧ ∃ o, ops[i]? = some o ∧ ∀ d ∈ directs o, lst listed d = true := by
  unfold Region.ready
  rw [List.mem_filter, List.mem_range]
  constructor
  · rintro ⟨h1, h2⟩
    rw [Bool.and_eq_true] at h2
    have ho : ops[i]? = some ops[i] := Array.getElem?_eq_getElem h1
    refine ⟨h1, ?_, _, ho, fun d hd => ?_⟩
    · have h3 := h2.1
      unfold lst
      simp only [Array.getD_eq_getD_getElem?, Array.getElem?_eq_getElem (show i < listed.size by omega), Option.getD_some, Bool.not_eq_true'] at h3 ⊢
      exact h3
    · have h3 := h2.2
      rw [ho] at h3
      simp only [Option.map_some, Option.getD_some, Array.all_eq_true'] at h3
      obtain ⟨e, he, rfl⟩ := List.mem_map.1 hd
      rw [List.mem_filter] at he
      have := h3 e (by simpa using he.1)
      rw [he.2] at this
      simpa [lst] using this
  · rintro ⟨h1, h2, o, ho, h3⟩
    refine ⟨h1, ?_⟩
    rw [Bool.and_eq_true]
    refine ⟨?_, ?_⟩
    · unfold lst at h2
      simp only [Array.getD_eq_getD_getElem?, Array.getElem?_eq_getElem (show i < listed.size by omega), Option.getD_some, Bool.not_eq_true'] at h2 ⊢
      exact h2
    · rw [ho]
      simp only [Option.map_some, Option.getD_some, Array.all_eq_true']
      intro e he
      cases hb : Region.binds .any e with
      | false => rfl
      | true => exact h3 e.on (List.mem_map.2 ⟨e, List.mem_filter.2 ⟨by simpa using he, hb⟩, rfl⟩)
end Go.Y
namespace Go.Y
open Go.Eng (T RepT RepM SRep Kept Base G SameOn VRep Split Live Free kn Owns ownB RootOk ERep HPred)
variable {P : Program} {I : Ids} {φ : FnP} {β : Base} {nt : Nat} {cs : List (Nat × Con)} {tb : Tabs}
variable {ρ : Type} {ls : List (Nat × LoopC ρ)} {r : ρ} {rs : List (Rec L)} {st : St L} {ops : Array Oper} {pins : List (Nat × Value)}
def todo (listed : Array Bool) : Nat := listed.toList.count false
theorem todo_set {listed : Array Bool} {i : Nat} (hi : i < listed.size) (h : lst listed i = false) : todo (listed.setIfInBounds i true) + 1 = todo listed := by
  have hi' : i < listed.toList.length := by simpa using hi
  have hv : listed.toList[i] = false := by
    unfold lst at h
    simp only [Array.getD_eq_getD_getElem?, Array.getElem?_eq_getElem hi, Option.getD_some] at h
    simpa using h
  unfold todo
  rw [Array.toList_setIfInBounds, List.count_set hi']
  have hpos : 0 < listed.toList.count false := List.count_pos_iff.2 (hv ▸ List.getElem_mem hi')
  rw [hv, if_pos (show (false == false) = true from rfl), if_neg (show ¬ (true == false) = true by decide)]
  omega
theorem any_ok (hop : ∀ β, OpOk P I φ β nt cs ([] : List (Nat × LoopC (St L))) tb) (hsr : SoftOk P I φ nt cs tb) (hsw : SoftWr cs tb) (hst : StaysOk cs tb)
    (hdst : ∀ o ∈ ops.toList, dstOk nt (pins.map (·.1)) o = true) (h : DRun cs tb ops.toList (aheadOf [] ops.toList) rs st) (hord : orderOk (aheadOf [] ops.toList) ops.toList.length (rs.map (·.i)) [] = true)
    {Q : Exit → Act → World → Prop} (hQ : ∀ g ac w, RelG P I φ β nt (foldM rs st) g ac w → Pin pins ac → Q .normal ac w) :
    ∀ (fuel : Nat) (listed : Array Bool) (σ : St L), listed.size = ops.size → todo listed ≤ fuel → Down (aheadOf [] ops.toList) (lst listed) → Sp rs st (fun R => lst listed R.i) σ →
    ∀ g ac w, RelG P I φ β nt σ g ac w → Pin pins ac → wpAny P .any ops Q fuel listed ac w := by
  obtain ⟨_, _, ho3, ho4⟩ := orderOk_spec _ _ hord
  have hsp := (aheadOf_spec ops.toList []).2
  have hlt : ∀ R ∈ rs, R.i < ops.size := by
    intro R hR
    obtain ⟨a, b, he⟩ := List.append_of_mem hR
    obtain ⟨o, ahd, gd, hG⟩ := h.good a R b he
    have := hG.op
    rw [getL_eq, List.getElem?_eq_some_iff] at this
    simpa using this.1
  have hall : ∀ (listed : Array Bool) (σ : St L), (∀ R ∈ rs, lst listed R.i = true) → Sp rs st (fun R => lst listed R.i) σ → ∀ g ac w, RelG P I φ β nt σ g ac w → Pin pins ac → Q .normal ac w := by
    intro listed σ hl hS g ac w hR hp
    have hc := h.canon rs [] (by simp)
    have hS' : Sp rs st (fun R => memN R.i (rs.map (·.i))) σ := hS.congr fun R hR => by
      rw [hl R hR, memN_iff.2 (List.mem_map.2 ⟨R, hR, rfl⟩)]
    exact hQ g ac w (relG_view (hS'.ag hc) hR) hp
  have hnone : ∀ (listed : Array Bool), listed.size = ops.size → Region.ready .any ops listed = [] → ∀ R ∈ rs, lst listed R.i = true := by
    intro listed hs hr
    rcases first_not (p := fun R => lst listed R.i) (rs := rs) with h1 | ⟨a, R, b, he, h1, h2⟩
    · exact h1
    · exfalso
      obtain ⟨o, ahd, gd, hG⟩ := h.good a R b he
      have hRi := hlt R (by rw [he]; simp)
      have hop' : ops.toList[R.i]? = some o := by have := hG.op; rwa [getL_eq] at this
      have hm : R.i ∈ Region.ready .any ops listed := by
        refine (mem_ready hs).2 ⟨hRi, h2, o, by rw [← Array.getElem?_toList]; exact hop', fun d hd => ?_⟩
        obtain ⟨ahd', h3, h4, _⟩ := hsp R.i o hop'
        simp only [List.length_nil, Nat.zero_add] at h3
        have hda := h4 d hd
        rcases ho3 (a.map (·.i)) R.i (b.map (·.i)) (by rw [he]; simp) ahd' (by rw [getL_eq]; exact h3) d hda with h5 | h5
        · obtain ⟨R0, h6, rfl⟩ := List.mem_map.1 h5
          exact h1 R0 h6
        · simp at h5
      rw [hr] at hm
      simp at hm
  intro fuel
  induction fuel with
  | zero =>
    intro listed σ hs ht hd hS g ac w hR hp
    have hl : ∀ i, i < ops.size → lst listed i = true := by
      intro i hi
      cases hb : lst listed i with
      | true => rfl
      | false =>
        have := todo_set (by omega) hb
        omega
    refine ⟨?_, hall listed σ (fun R hR' => hl R.i (hlt R hR')) hS g ac w hR hp⟩
    cases hr : Region.ready .any ops listed with
    | nil => rfl
    | cons i l =>
      have hm : i ∈ Region.ready .any ops listed := by rw [hr]; simp
      obtain ⟨h1, h2, _⟩ := (mem_ready hs).1 hm
      rw [hl i h1] at h2
      cases h2
  | succ fuel ih =>
    intro listed σ hs ht hd hS g ac w hR hp
    refine ⟨fun hr => hall listed σ (hnone listed hs hr) hS g ac w hR hp, fun i hi => ?_⟩
    obtain ⟨h1, h2, o, ho, h3⟩ := (mem_ready hs).1 hi
    have hmem : i ∈ rs.map (·.i) := by
      rcases ho4 i (by simpa using h1) with h4 | h4
      · exact h4
      · simp at h4
    obtain ⟨R, hRm, rfl⟩ := List.mem_map.1 hmem
    obtain ⟨a, b, he⟩ := List.append_of_mem hRm
    obtain ⟨o', ahd, gd, hG⟩ := h.good a R b he
    have hah : ∀ j ∈ ahd, lst listed j = true := by
      intro j hj
      have hop' : ops.toList[R.i]? = some o := by rw [Array.getElem?_toList]; exact ho
      obtain ⟨ahd', h4, _, h5⟩ := hsp R.i o hop'
      simp only [List.length_nil, Nat.zero_add] at h4
      have : ahd' = ahd := by
        have := hG.ahead
        rw [getL_eq, h4] at this
        cases this; rfl
      subst this
      obtain ⟨d, hdd, rfl | ⟨m, h6, h7⟩⟩ := h5 j hj
      · exact h3 _ hdd
      · exact hd d (h3 d hdd) m (by rw [getL_eq]; exact h6) j h7
    have hsz : R.i < listed.size := by omega
    refine h.run_op hop hsr hsw hst hdst he hG hd h2 hah hS hR hp fun σ' g' ac' w' hS' hR' hp' => ?_
    have hls := lst_set hsz
    refine ih _ σ' (by simp [hs]) (by have := todo_set hsz h2; omega) ?_ (hS'.congr fun R0 _ => (hls R0.i).symm) g' ac' w' hR' hp'
    intro i hi ahd2 ha2 j hj
    rw [hls] at hi ⊢
    unfold ins at hi ⊢
    rw [Bool.or_eq_true] at hi ⊢
    rcases hi with hi | hi
    · exact .inl (hd i hi ahd2 ha2 j hj)
    · have := Nat.eq_of_beq_eq_true hi
      subst this
      have h8 := hG.ahead
      rw [ha2] at h8
      cases h8
      exact .inl (hah j hj)
def FreezeOk (P : Program) (I : Ids) (φ : FnP) (β : Base) (nt : Nat) : Prop :=
  ∀ (l : Loc L) (st : St L) g ac w, RelG P I φ β nt st g ac w → ∃ g', RelG P I φ β nt (freezeA st (.ar l)) g' ac w
theorem preFreeze_ok (hfr : FreezeOk P I φ β nt) (all : List Oper) : ∀ (l : List Oper) (st : St L) g ac w, RelG P I φ β nt st g ac w → ∃ g', RelG P I φ β nt (preFreeze all st l) g' ac w
  | [], st, g, ac, w, h => ⟨g, h⟩
  | o :: l, st, g, ac, w, h => by
    unfold preFreeze
    split
    · split
      · obtain ⟨g', h'⟩ := hfr _ st g ac w h
        exact preFreeze_ok hfr all l _ g' ac w h'
      · exact preFreeze_ok hfr all l _ g ac w h
    · exact preFreeze_ok hfr all l _ g ac w h
theorem RelG.drawn {σ : St L} {g : G} {ac : Act} {w : World} (h : RelG P I φ β nt σ g ac w) (n : Nat) (hw : ∀ {σ : St L} {g : G} {w : World}, Inv P I φ β σ g w → Inv P I φ β σ g { w with drawn := n })
    (ha : ∀ {σ : St L} {g : G} {w : World} {x : AV L} {u : Value}, ARep P I φ σ g w x u → ARep P I φ σ g { w with drawn := n } x u) : RelG P I φ β nt σ g ac { w with drawn := n } :=
  ⟨h.defers, h.size, hw h.i, fun s x hx => by obtain ⟨u, h1, h2⟩ := h.e s x hx; exact ⟨u, h1, ha h2⟩, fun s k b x hx => by obtain ⟨u, h1, h2, h3⟩ := h.n s k b x hx; exact ⟨u, h1, fun hk => ha (h2 hk), h3⟩⟩
end Go.Y
namespace Go.Y
open Go.Eng (T RepT RepM SRep Kept Base G SameOn VRep Split Live Free kn Owns ownB RootOk ERep HPred)
variable {P : Program} {I : Ids} {φ : FnP} {β : Base} {nt : Nat} {cs : List (Nat × Con)} {tb : Tabs}
theorem same_drawn (S : Nat → Prop) (w : World) (n : Nat) : SameOn S w { w with drawn := n } := fun b _ _ => rfl
theorem inv_drawn {σ : St L} {g : G} {w : World} (n : Nat) (h : Inv P I φ β σ g w) : Inv P I φ β σ g { w with drawn := n } :=
  ⟨Eng.srep_same (same_drawn _ w n) (Nat.le_refl _) h.s, ⟨h.k.os, h.k.tape, h.k.output, h.k.size, h.k.block, h.k.F, h.k.F', h.k.B⟩, h.c, h.f⟩
theorem arep_drawn {σ : St L} {g : G} {w : World} (n : Nat) (hi : Inv P I φ β σ g w) {x : AV L} {u : Value} (h : ARep P I φ σ g w x u) : ARep P I φ σ g { w with drawn := n } x u := by
  induction h with
  | lf v u h => exact .lf v u (h.mono (same_drawn _ w n) fun _ h => h)
  | zs e a u h => exact .zs e a u h
  | tl v b n' h => exact .tl v b n' (h.mono (same_drawn _ w n) fun _ h => h)
  | ar l u hb h1 => exact .ar l u hb fun hv d e nl xs hat => by rw [Eng.locV_same (same_drawn _ w n) hi.s _ hat]; exact h1 hv d e nl xs hat
  | pt l b o hb h1 => exact .pt l b o hb fun hv ht => by rw [Eng.locA_same (same_drawn _ w n) hi.s _ ht]; exact h1 hv ht
  | fp v b o us hF hc hr => exact .fp v b o us hF (fun j t hj => hc j t hj) fun j t hj => (hr j t hj).mono (same_drawn _ w n) fun _ h => h
  | ag t cs vs us hl hv _ ih => exact .ag t cs vs us hl hv ih
  | tu cs vs us hl hv _ ih => exact .tu cs vs us hl hv ih
  | fn f cs vs us hl hv _ ih => exact .fn f cs vs us hl hv ih
  | u u => exact .u u
theorem relG_drawn {σ : St L} {g : G} {ac : Act} {w : World} (n : Nat) (h : RelG P I φ β nt σ g ac w) : RelG P I φ β nt σ g ac { w with drawn := n } :=
  ⟨h.defers, h.size, inv_drawn n h.i, fun s x hx => by obtain ⟨u, h1, h2⟩ := h.e s x hx; exact ⟨u, h1, arep_drawn n h.i h2⟩,
    fun s k b x hx => by obtain ⟨u, h1, h2, h3⟩ := h.n s k b x hx; exact ⟨u, h1, fun hk => arep_drawn n h.i (h2 hk), h3⟩⟩
theorem freeze_ok (hf : FnsOk φ cs) : FreezeOk P I φ β nt := by
  intro l st g ac w h
  obtain ⟨g', hp, hi, _⟩ := freezeA_ok hf h.i (.ar l)
  have he := freezeA_env (st := st) (.ar l : AV L)
  refine ⟨g', h.defers, h.size, hi, fun s x hx => ?_, fun s k b x hx => ?_⟩
  · rw [he.1] at hx
    obtain ⟨u, h1, h2⟩ := h.e s x hx
    exact ⟨u, h1, hp.a x u h2⟩
  · rw [he.2] at hx
    obtain ⟨u, h1, h2, h3⟩ := h.n s k b x hx
    exact ⟨u, h1, fun hk => hp.a x u (h2 hk), h3⟩
end Go.Y
namespace Go.Y
open Go.Eng (T RepT RepM SRep Kept Base G SameOn VRep Split Live Free kn Owns ownB RootOk ERep HPred)
variable {P : Program} {I : Ids} {φ : FnP} {β : Base} {nt : Nat} {cs : List (Nat × Con)} {tb : Tabs} {ρ : Type} {ls : List (Nat × LoopC ρ)} {pins : List (Nat × Value)}
theorem lst_none (n i : Nat) : lst (Array.replicate n false) i = false := by
  unfold lst
  simp only [Array.getD_eq_getD_getElem?, Array.getElem?_replicate]
  split <;> rfl
theorem draw_ok (hf : FnsOk φ cs) (hmix : P.follows .mixedOrders = true) (hop : ∀ β, OpOk P I φ β nt cs ([] : List (Nat × LoopC (St L))) tb) (hsr : SoftOk P I φ nt cs tb) (hsw : SoftWr cs tb) (hst : StaysOk cs tb) : DrawOk P I φ β nt cs ls tb pins := by
  intro id ops st n r Q hdst hn h g a w hR hp
  simp only [drawK] at h
  split at h
  · rename_i hc
    rw [Bool.and_eq_true] at hc
    obtain ⟨rs, h1, h2, h3⟩ := drawGo_some _ _ _ h
    obtain ⟨g1, hR1⟩ := preFreeze_ok (freeze_ok hf) ops.toList ops.toList st g a w hR
    have hR2 := relG_drawn (w.drawn + 1) hR1
    have hord : orderOk (aheadOf [] ops.toList) ops.toList.length (rs.map (·.i)) [] = true := by rw [h1]; exact hc.1
    have hrun : DRun cs tb ops.toList (aheadOf [] ops.toList) rs (preFreeze ops.toList st ops.toList) := ⟨fun a R b e => by simpa using h3 a R b e, (orderOk_spec _ _ hord).1, hc.2⟩
    refine wp_region_any hmix (any_ok hop hsr hsw hst hdst hrun hord (fun g ac w hR hp => hn _ g ac w h2 hR hp) ops.size _ (preFreeze ops.toList st ops.toList) (by simp) ?_ ?_ ?_ g1 a _ hR2 hp)
    · unfold todo
      simp
    · intro i hi
      rw [lst_none] at hi
      cases hi
    · exact (Sp.start rs _).congr fun R _ => (lst_none _ _).symm
  · cases h
end Go.Y
namespace Go.Y
open RF RAlg
variable {cs : List (Nat × Con)} {ρ σ : Type} {ls : List (Nat × LoopC ρ)} {ls2 : List (Nat × LoopC σ)} {f : σ → Option ρ} {tb : Tabs}
theorem slice_nat {st : St L} {gd : Option (Gd L)} {dst : Option Nat} {rt : TypeId} {t : TypeId} {x : Operand} {lo hi mx : Option Operand} {k : St L → Option ρ} {k2 : St L → Option σ}
    (hret : ∀ x : AV L, retK st gd dst k x = (retK st gd dst k2 x).bind f) (h : ∀ y : AV L, @evalO L (semL cs) tb st (gdKeys gd) t x = some y → ∀ w, sliceK st gd dst k y w = (sliceK st gd dst k2 y w).bind f) :
    @opK L (Option ρ) (semL cs) (semF ρ) (semR ρ cs ls) tb st gd dst rt (.slice t x lo hi mx) k = (@opK L (Option σ) (semL cs) (semF σ) (semR σ cs ls2) tb st gd dst rt (.slice t x lo hi mx) k2).bind f := by
  simp only [opK]
  refine oCase_natE fun y hy => oCase_nat fun _ => ?_
  split
  · split
    · split
      · split
        · exact hret _
        · rfl
      · refine peekK_nat fun _ => ?_
        split
        · split
          · exact hret _
          · rfl
        · rfl
    · rfl
  · refine peekK_nat fun v => ?_
    split
    · rfl
    · refine oCase_nat fun n => ?_
      have hw := h y hy
      cases lo with
      | none => cases hi with
        | none => exact checkIdx_nat (checkIdx_nat (oCase_nat hw))
        | some h =>
          refine oCase_nat fun h => ?_
          cases h with
          | lf h => exact checkIdx_nat (checkIdx_nat (oCase_nat hw))
          | _ => rfl
      | some l =>
        refine oCase_nat fun l => ?_
        cases l with
        | lf l => cases hi with
          | none => exact checkIdx_nat (checkIdx_nat (oCase_nat hw))
          | some h =>
            refine oCase_nat fun h => ?_
            cases h with
            | lf h => exact checkIdx_nat (checkIdx_nat (oCase_nat hw))
            | _ => rfl
        | _ => rfl
theorem get_setSelf {st : St L} {l : Loc L} {c : Cell L} (h : cellAt st l = some c) : ∀ k, get (setCell st l.root l.off c).sto k = get st.sto k := by
  intro k
  obtain ⟨r, hr, _, hc⟩ := cellAt_iff.1 h
  rw [get_setCell st _ _ c r hr]
  split
  · rename_i hk
    subst hk
    rw [hr]
    congr 1
    have : r.cells.set l.off c = r.cells := by
      refine List.ext_getElem? fun j => ?_
      rw [List.getElem?_set]
      split
      · rename_i hj
        subst hj
        split
        · exact hc.symm
        · rename_i hl
          rw [List.getElem?_eq_some_iff] at hc
          exact absurd hc.1 hl
      · rfl
    rw [this]
  · rfl
open Classical in
theorem stays_ok : StaysOk cs tb := by
  intro o gd st st' hs h
  obtain ⟨ot, hot⟩ : ∃ x, x = o.op := ⟨_, rfl⟩
  cases hop : o.op <;> rw [hop] at hs <;> try (simp [stays] at hs; done)
  rename_i t x lo hi mx
  have hfz : ∀ y : AV L, @evalO L (semL cs) tb st (gdKeys gd) t x = some y → ∀ k, get (freezeA st y).sto k = get st.sto k := by
    intro y hy k
    cases x with
    | tmp s =>
      simp only [stays] at hs
      simp only [evalO] at hy
      cases hx : get st.env s with
      | none => rw [hx] at hs; cases hs
      | some x =>
        rw [hx] at hs hy
        simp only [Option.some.injEq] at hy
        subst hy
        cases x with
        | lf v => rfl
        | zs e a => rfl
        | ar l =>
          simp only at hs
          split at hs
          · rename_i s0 v0 hst hc
            simp only [freezeA, freezeL, hc]
            exact get_setSelf hc k
          · cases hs
        | _ => simp at hs
    | _ => simp [stays] at hs
  have hput : ∀ (a : St L) d x, (∀ k, get a.sto k = get st.sto k) → ∀ k, get (putE a gd d x).sto k = get st.sto k := fun a d x h k => by rw [putE_sto]; exact h k
  have h1 := slice_nat (cs := cs) (ρ := St L) (σ := St L) (ls := []) (ls2 := []) (f := some) (tb := tb) (st := st) (gd := gd) (dst := o.dst) (rt := o.type) (t := t) (x := x) (lo := lo) (hi := hi) (mx := mx) (k := some) (k2 := fun x => if ∀ k, get x.sto k = get st.sto k then some x else none)
    (fun x => by
      cases o.dst with
      | none => simp [retK]
      | some d => simp only [retK]; rw [if_pos (hput st d x fun _ => rfl)]; rfl)
    (fun y hy w => by
      cases o.dst with
      | none => simp [sliceK]
      | some d => simp only [sliceK]; rw [if_pos (hput _ d _ (hfz y hy))]; rfl)
  unfold opS at h
  rw [hop, h1, Option.bind_eq_some_iff] at h
  obtain ⟨x', h3, h4⟩ := h
  cases h4
  have h5 := opK_opS (cs := cs) (ρ := St L) (ls := []) (tb := tb) (st := st) (gd := gd) (o := o) (k := fun x => if ∀ k, get x.sto k = get st.sto k then some x else none)
  rw [hop, h3] at h5
  have h6 := h5.symm
  rw [Option.bind_eq_some_iff] at h6
  obtain ⟨y, _, h8⟩ := h6
  split at h8
  · cases h8; assumption
  · cases h8
end Go.Y
namespace Go.Y
open RF RAlg
variable {cs : List (Nat × Con)} {ρ σ : Type} {ls : List (Nat × LoopC ρ)} {ls2 : List (Nat × LoopC σ)} {f : σ → Option ρ} {tb : Tabs}
def SoftP (d : Option Nat) (st x : St L) : Prop := ∀ k r, d ≠ some k → get st.sto k = some r → ∃ r', get x.sto k = some r' ∧ SoftR r r'
theorem SoftP.refl (d : Option Nat) (st : St L) : SoftP d st st := fun k r _ h => ⟨r, h, .refl r⟩
theorem SoftP.trans {d : Option Nat} {a b c : St L} (h : SoftP d a b) (h' : SoftP d b c) : SoftP d a c := fun k r hd hr => by
  obtain ⟨r1, h1, h2⟩ := h k r hd hr
  obtain ⟨r2, h3, h4⟩ := h' k r1 hd h1
  exact ⟨r2, h3, h2.trans h4⟩
theorem SoftP.putE {d : Option Nat} {a b : St L} (h : SoftP d a b) (gd : Option (Gd L)) (e : Nat) (x : AV L) : SoftP d a (putE b gd e x) := fun k r hd hr => by
  rw [putE_sto]; exact h k r hd hr
theorem softP_set {d : Option Nat} {st : St L} {l : Loc L} {c c' : Cell L} (hc : cellAt st l = some c) (h : SoftC c c') : SoftP d st (setCell st l.root l.off c') := by
  intro k r _ hr
  obtain ⟨r0, h1, _, h3⟩ := cellAt_iff.1 hc
  rw [get_setCell st _ _ c' r0 h1]
  split
  · rename_i hk
    subst hk
    rw [h1] at hr
    cases hr
    refine ⟨_, rfl, rfl, rfl, by simp, fun j x hj => ?_⟩
    simp only [List.getElem?_set]
    split
    · rename_i hj'
      subst hj'
      rw [h3] at hj
      cases hj
      have := (List.getElem?_eq_some_iff.1 h3).1
      exact ⟨c', by simp [this], h⟩
    · exact ⟨x, hj, .refl x⟩
  · exact ⟨r, hr, .refl r⟩
theorem softP_freezeL (d : Option Nat) (st : St L) (l : Loc L) : SoftP d st (freezeL st l) := by
  unfold freezeL
  split
  · rename_i s e v hc
    refine softP_set hc ?_
    cases e with
    | zero => exact .inl rfl
    | succ e => exact .inr ⟨e, v, rfl, .inr rfl⟩
  · exact .refl d st
theorem softP_frL (d : Option Nat) : ∀ (xs : List (AV L)) (st : St L), SoftP d st (frL st xs)
  | [], st => .refl d st
  | x :: xs, st => by
    unfold frL
    refine SoftP.trans ?_ (softP_frL d xs _)
    unfold frP
    split
    · exact softP_freezeL d st _
    · exact .refl d st
theorem softP_freezeA (d : Option Nat) (st : St L) (x : AV L) : SoftP d st (freezeA st x) := by
  unfold freezeA
  split
  · exact softP_freezeL d st _
  · exact softP_frL d _ st
  · exact .refl d st
theorem softP_freezeAll (d : Option Nat) : ∀ (xs : List (AV L)) (st : St L), SoftP d st (freezeAll st xs)
  | [], st => .refl d st
  | x :: xs, st => (softP_freezeA d st x).trans (softP_freezeAll d xs _)
theorem softP_new (d : Nat) (st : St L) (mem : Option TypeId) (es : List (E L)) : SoftP (some d) st (newRoot st d mem es).1 := by
  intro k r hd hr
  refine ⟨r, ?_, .refl r⟩
  simp only [newRoot, get_put]
  rw [if_neg fun e => hd (by rw [e])]
  exact hr
theorem softP_putAll {d : Option Nat} {st : St L} {l : List (Nat × Root L)} (h : keysFree st.sto l = true) : SoftP d st { st with sto := putAll l st.sto } := by
  intro k r _ hr
  refine ⟨r, ?_, .refl r⟩
  simp only [get_putAll]
  cases hl : get l k with
  | none => exact hr
  | some r' =>
    rw [keysFree_get h k r' hl] at hr
    cases hr
end Go.Y
namespace Go.Y
open RF RAlg
variable {cs : List (Nat × Con)} {ρ σ : Type} {ls : List (Nat × LoopC ρ)} {ls2 : List (Nat × LoopC σ)} {f : σ → Option ρ} {tb : Tabs}
theorem call1_soft {tb : Tabs} {st : St L} {gd : Option (Gd L)} {d : Option Nat} {fn : Nat} {args : List (AV L)} {k : St L → Option ρ} {k2 : St L → Option σ}
    (h : ∀ x, SoftP d st x → k x = (k2 x).bind f) :
    @call1 L (Option ρ) (semL cs) (semF ρ) (semR ρ cs ls) tb st gd d fn args k = (@call1 L (Option σ) (semL cs) (semF σ) (semR σ cs ls2) tb st gd d fn args k2).bind f := by
  unfold call1
  refine oCase_nat fun sg => ?_
  split
  · rfl
  · refine selK_nat fun ys => ?_
    split
    · rfl
    · refine oCase_nat fun vs => call_nat fun r => ?_
      split
      · rfl
      · rename_i d0
        refine oCase_nat fun rs => ?_
        simp only []
        split
        · split
          · exact oCase_nat fun x => h _ ((SoftP.refl _ _).putE _ _ _)
          · rfl
        · split
          · exact oCase_nat fun x => h _ ((softP_freezeAll _ _ _).putE _ _ _)
          · split
            · rename_i hc
              rw [Bool.and_eq_true] at hc
              exact oCase_nat fun x => h _ (((softP_freezeAll _ _ _).trans (softP_putAll hc.1)).putE _ _ _)
            · rfl
          · rfl
theorem call_soft {st : St L} {gd : Option (Gd L)} {dst : Option Nat} {rt : TypeId} {c : Go.Call} {k : St L → Option ρ} {k2 : St L → Option σ} (h : ∀ x, SoftP dst st x → k x = (k2 x).bind f) :
    @opK L (Option ρ) (semL cs) (semF ρ) (semR ρ cs ls) tb st gd dst rt (.call c) k = (@opK L (Option σ) (semL cs) (semF σ) (semR σ cs ls2) tb st gd dst rt (.call c) k2).bind f := by
  have hret : ∀ x : AV L, retK st gd dst k x = (retK st gd dst k2 x).bind f := by
    intro x
    cases dst with
    | none => exact h _ (.refl _ _)
    | some d => exact h _ ((SoftP.refl _ _).putE _ _ _)
  simp only [opK]
  split
  · split
    · refine oCase_nat fun _ => oCase_nat fun _ => peekK_nat fun _ => ?_
      split
      · exact oCase_nat fun _ => hret _
      · rfl
    · rfl
  · split
    · refine oCase_nat fun _ => oCase_nat fun _ => ?_
      split
      · exact oCase_nat fun _ => hret _
      · rfl
    · rfl
  · split
    · refine oCase_nat fun _ => oCase_nat fun _ => ?_
      split
      · exact oCase_nat fun _ => hret _
      · rfl
    · rfl
  · rename_i hc
    cases gd with
    | some g => rfl
    | none =>
      simp only []
      split
      · refine oCase_nat fun _ => oCase_nat fun _ => oCase_nat fun _ => oCase_nat fun _ => ?_
        split
        · refine oCase_nat fun _ => ?_
          split
          · rfl
          · refine peekK_nat fun ys => ?_
            split
            · split
              · exact oCase_nat fun _ => oCase_nat fun _ => oCase_nat fun _ => check_nat (h _ (((softP_freezeA _ _ _).trans (softP_new _ _ _ _)).putE _ _ _))
              · rfl
            · split
              · split
                · exact oCase_nat fun _ => oCase_nat fun _ => oCase_nat fun _ => check_nat (h _ ((((softP_freezeA _ _ _).trans (softP_set ‹_› (.inr ⟨_, _, rfl, .inl ⟨Nat.lt_succ_self _, _, _, of_decide_eq_true (Bool.and_eq_true_iff.1 ‹_›).2⟩⟩))).trans (softP_new _ _ _ _)).putE _ _ _))
                · rfl
              · rfl
            · rfl
        · rfl
      · rfl
  · split
    · rfl
    · refine oCase_nat fun _ => ?_
      split
      · exact evs_nat fun _ => call1_soft h
      · split
        · refine evs_nat fun _ => peekAll_nat fun _ => callV_nat fun _ => ?_
          cases dst with
          | none => rfl
          | some d =>
            refine h _ (SoftP.putE ?_ _ _ _)
            split
            · exact .refl _ _
            · exact softP_freezeAll _ _ _
        · rfl
      · rfl
  · rfl
open Classical in
theorem softWr_ok : SoftWr cs tb := by
  intro o gd st st' hs h
  cases hop : o.op <;> rw [hop] at hs <;> try (simp [softW] at hs; done)
  rename_i c
  have h1 := call_soft (cs := cs) (ρ := St L) (σ := St L) (ls := []) (ls2 := []) (f := some) (tb := tb) (st := st) (gd := gd) (dst := o.dst) (rt := o.type) (c := c) (k := some) (k2 := fun x => if SoftP o.dst st x then some x else none)
    (fun x hx => by rw [if_pos hx]; rfl)
  unfold opS at h
  rw [hop, h1, Option.bind_eq_some_iff] at h
  obtain ⟨x', h3, h4⟩ := h
  cases h4
  have h5 := opK_opS (cs := cs) (ρ := St L) (ls := []) (tb := tb) (st := st) (gd := gd) (o := o) (k := fun x => if SoftP o.dst st x then some x else none)
  rw [hop, h3] at h5
  have h6 := h5.symm
  rw [Option.bind_eq_some_iff] at h6
  obtain ⟨y, _, h8⟩ := h6
  split at h8
  · cases h8; assumption
  · cases h8
end Go.Y
namespace Go.Y
open RF RAlg
variable {cs : List (Nat × Con)} {ρ σ : Type} {ls : List (Nat × LoopC ρ)} {ls2 : List (Nat × LoopC σ)} {f : σ → Option ρ} {tb : Tabs}
theorem evalO_sto {st : St L} {sto' : List (Nat × Root L)} {ks : List (Nat × Bool)} {t : TypeId} {x : Operand} : @evalO L (semL cs) tb ⟨st.env, st.gnv, sto'⟩ ks t x = @evalO L (semL cs) tb st ks t x := by
  cases x <;> rfl
def softN : Op → Bool
  | .move _ | .assign _ | .fieldAddr _ _ _ | .field _ _ _ | .extract _ _ | .nilCheck _ => true
  | _ => false
theorem softN_nat {st : St L} {sto' : List (Nat × Root L)} {gd : Option (Gd L)} {dst : Option Nat} {rt : TypeId} {o : Op} {k : St L → Option ρ} {k2 : St L → Option σ} (hs : softN o = true)
    (hret : ∀ x : AV L, retK st gd dst k x = (retK ⟨st.env, st.gnv, sto'⟩ gd dst k2 x).bind f) :
    @opK L (Option ρ) (semL cs) (semF ρ) (semR ρ cs ls) tb st gd dst rt o k = (@opK L (Option σ) (semL cs) (semF σ) (semR σ cs ls2) tb ⟨st.env, st.gnv, sto'⟩ gd dst rt o k2).bind f := by
  cases o with
  | move x => simp only [opK, evalO_sto]; exact oCase_nat hret
  | assign x => simp only [opK, evalO_sto]; exact oCase_nat hret
  | extract x i =>
    simp only [opK, evalO_sto]
    refine oCase_nat fun _ => ?_
    split
    · exact oCase_nat hret
    · rfl
  | nilCheck x =>
    simp only [opK, evalO_sto]
    refine oCase_nat fun _ => ?_
    split
    · exact hret _
    · exact hret _
    · rfl
  | fieldAddr t x i =>
    simp only [opK, evalO_sto]
    refine oCase_nat fun _ => oCase_nat fun _ => oCase_nat fun _ => oCase_nat fun _ => ?_
    split
    · rfl
    · split
      · exact hret _
      · split
        · exact oCase_nat fun _ => hret _
        · rfl
      · rfl
  | field t x i =>
    simp only [opK, evalO_sto]
    refine oCase_nat fun _ => oCase_nat fun _ => ?_
    split
    · split
      · exact oCase_nat fun _ => oCase_nat fun _ => hret _
      · rfl
    · refine oCase_nat fun _ => oCase_nat fun _ => ?_
      split
      · exact hret _
      · split
        · exact hret _
        · rfl
    · rfl
  | _ => simp [softN] at hs
theorem putE_sto2 {st : St L} {sto' : List (Nat × Root L)} {gd : Option (Gd L)} {d : Nat} {x : AV L} : putE st gd d x = ⟨(putE ⟨st.env, st.gnv, sto'⟩ gd d x).env, (putE ⟨st.env, st.gnv, sto'⟩ gd d x).gnv, st.sto⟩ := by
  unfold putE
  split
  · rfl
  · split <;> rfl
theorem softN_opS {st st' : St L} {sto' : List (Nat × Root L)} {gd : Option (Gd L)} {o : Oper} (hs : softN o.op = true) (h : opS cs tb st gd o = some st') :
    ∃ st2, opS cs tb ⟨st.env, st.gnv, sto'⟩ gd o = some st2 ∧ st2.env = st'.env ∧ st2.gnv = st'.gnv := by
  have h1 := softN_nat (cs := cs) (ρ := St L) (σ := St L) (ls := []) (ls2 := []) (f := fun y => some ⟨y.env, y.gnv, st.sto⟩) (tb := tb) (st := st) (sto' := sto') (gd := gd) (dst := o.dst) (rt := o.type) (k := some) (k2 := some) hs
    (fun x => by
      cases o.dst with
      | none => rfl
      | some d => simp only [retK, Option.bind_some, Option.some.injEq]; exact putE_sto2)
  unfold opS at h ⊢
  rw [h1, Option.bind_eq_some_iff] at h
  obtain ⟨y, h2, h3⟩ := h
  cases h3
  exact ⟨y, h2, rfl, rfl⟩
end Go.Y
namespace Go.Y
open Go.Eng (T RepT RepM SRep Kept Base G SameOn VRep Split Live Free kn Owns ownB RootOk ERep HPred)
variable {P : Program} {I : Ids} {φ : FnP} {β : Base} {nt : Nat} {cs : List (Nat × Con)} {tb : Tabs}
variable {ρ : Type} {ls : List (Nat × LoopC ρ)} {r : ρ}
theorem cellAV_soft {sc st : St L} (hso : SoftS sc.sto st.sto) {g : G} {w : World} (hi : Inv P I φ β st g w) {l : Loc L} (hst : l.steps = []) {r1 : Root L} (hr : get st.sto l.root = some r1) (hg : r1.gen = l.gen) {j : Nat} {c c' : Cell L}
    (hc : r1.cells[j]? = some c') (hs : SoftC c c') :
    ∃ u, Eng.rootV g w l.root (injR I φ st r1) j = some u ∧ ARep P I φ st g w (@cellAV L (semL cs) sc { l with off := j } c) u := by
  obtain ⟨u, hu, ha⟩ := cellAV_ok (cs := cs) hi hst hr hg hc
  have hr' : Eng.get (injS I φ st) l.root = some (injR I φ st r1) := by rw [get_injS, hr]; rfl
  refine ⟨u, hu, ?_⟩
  obtain ⟨s, e⟩ := c
  rcases hs with rfl | ⟨d, v, h1, h2⟩
  · cases e with
    | o d v => cases d <;> exact ha
    | mv => exact ha
    | rf l' =>
      unfold cellAV at ha ⊢
      simp only at ha ⊢
      cases hra : rootAt sc l' with
      | none => exact .u _
      | some r2 =>
        cases hm : r2.mem with
        | none => simp only [hm]; exact .u _
        | some e =>
          simp only [hm]
          obtain ⟨h3, h4⟩ := rootAt_iff.1 hra
          obtain ⟨r3, h5, h6⟩ := hso _ _ h3
          have h7 : rootAt st l' = some r3 := rootAt_iff.2 ⟨h5, by rw [h6.gen]; exact h4⟩
          simp only [h7, h6.mem, hm] at ha
          exact ha
  · simp only at h1
    subst h1
    obtain ⟨vty, vv⟩ := v
    have hle : s ≤ c'.stamp := by
      rcases h2 with ⟨h2, _⟩ | rfl
      · exact Nat.le_of_lt h2
      · exact Nat.le_refl _
    cases vty with
    | sl e a =>
      refine .ar _ _ ⟨r1, hr, Nat.le_of_eq hg.symm, fun _ c1 hc1 => ?_⟩ fun _ _ _ _ _ _ => ?_
      · simp only at hc1
        rw [hc, Option.some.injEq] at hc1
        subst hc1
        exact hle
      · unfold Eng.locV
        simp only [injLoc, hst, List.map_nil, hr', Option.bind_some]
        exact hu
    | ptr e a => exact .u _
    | _ =>
      rcases h2 with ⟨_, e', a', h3⟩ | rfl
      · cases h3
      · exact ha
end Go.Y
namespace Go.Y
open Go.Eng (T RepT RepM SRep Kept Base G SameOn VRep Split Live Free kn Owns ownB RootOk ERep HPred)
variable {P : Program} {I : Ids} {φ : FnP} {β : Base} {nt : Nat} {cs : List (Nat × Con)} {tb : Tabs}
variable {ρ : Type} {ls : List (Nat × LoopC ρ)} {r : ρ}
theorem loadL_soft {sc st : St L} (hso : SoftS sc.sto st.sto) {g : G} {w : World} (hi : Inv P I φ β st g w) {l : Loc L} (hst : l.steps = []) {r1 : Root L} (hr : get st.sto l.root = some r1) (hg : r1.gen = l.gen) :
    ∀ (zs : List (Cell L)) (j : Nat), (∀ i c, zs[i]? = some c → ∃ c', r1.cells[l.off + j + i]? = some c' ∧ SoftC c c') → ∃ us : Nat → Value, (@loadK.loadL L (semL cs) sc l j zs).length = zs.length ∧
      ∀ i x, (@loadK.loadL L (semL cs) sc l j zs)[i]? = some x → Eng.rootV g w l.root (injR I φ st r1) (l.off + j + i) = some (us i) ∧ ARep P I φ st g w x (us i) := by
  intro zs
  induction zs with
  | nil => intro j _; exact ⟨fun _ => undef, rfl, fun i x hx => by simp [loadK.loadL] at hx⟩
  | cons c zs ih =>
    intro j hz
    obtain ⟨us, h1, h2⟩ := ih (j + 1) (fun i c hc => by
      obtain ⟨c', h3, h4⟩ := hz (i + 1) c (by simpa using hc)
      exact ⟨c', by rw [← h3]; congr 1; omega, h4⟩)
    obtain ⟨c', h5, h6⟩ := hz 0 c rfl
    obtain ⟨u, hu, ha⟩ := cellAV_soft (cs := cs) hso hi hst hr hg h5 h6
    refine ⟨fun i => match i with | 0 => u | i + 1 => us i, by simp [loadK.loadL, h1], fun i x hx => ?_⟩
    cases i with
    | zero =>
      simp only [loadK.loadL, List.getElem?_cons_zero, Option.some.injEq] at hx
      subst hx
      exact ⟨hu, by simpa using ha⟩
    | succ i =>
      simp only [loadK.loadL, List.getElem?_cons_succ] at hx
      obtain ⟨h3, h4⟩ := h2 i x hx
      refine ⟨?_, h4⟩
      rw [← h3]
      congr 1
      omega
theorem load_soft {sc st : St L} (hso : SoftS sc.sto st.sto) {g : G} {w : World} (hi : Inv P I φ β st g w) {l : Loc L} (hst : l.steps = []) {r0 : Root L} (hr0 : rootAt sc l = some r0) {e : TypeId} (hm0 : r0.mem = some e) {t : TypeId} {i : TI} (hti : TiFacts P t i) {u : Value} (ha : ARep P I φ st g w (.pt l) u)
    (hn : (@loadK.loadL L (semL cs) sc l 0 (takeL i.cells (dropL l.off r0.cells))).length = i.cells) {y : AV L}
    (hy : (i.agg = true ∧ y = @mkAg L (semL cs) i.ty (@loadK.loadL L (semL cs) sc l 0 (takeL i.cells (dropL l.off r0.cells)))) ∨ (i.agg = false ∧ @loadK.loadL L (semL cs) sc l 0 (takeL i.cells (dropL l.off r0.cells)) = [y])) :
    ∃ z, (Instr.loadAt t u).run P w = .ok z w ∧ ARep P I φ st g w y z := by
  obtain ⟨h10, h20⟩ := rootAt_iff.1 hr0
  obtain ⟨r1, h1, hsr⟩ := hso _ _ h10
  have h2 : r1.gen = l.gen := by rw [hsr.gen]; exact h20
  have hm : r1.mem = some e := by rw [hsr.mem]; exact hm0
  have hr : rootAt st l = some r1 := rootAt_iff.2 ⟨h1, h2⟩
  obtain ⟨us, h3, h4⟩ := loadL_soft (cs := cs) hso hi hst h1 h2 (takeL i.cells (dropL l.off r0.cells)) 0 (fun j c hj => by
    rw [takeL_eq, dropL_eq, List.getElem?_take] at hj
    split at hj
    · rw [List.getElem?_drop] at hj
      obtain ⟨c', h5, h6⟩ := hsr.cell _ _ hj
      exact ⟨c', by simpa using h5, h6⟩
    · cases hj)
  generalize hz : @loadK.loadL L (semL cs) sc l 0 (takeL i.cells (dropL l.off r0.cells)) = zs at h3 h4 hn hy
  cases ha with
  | pt _ b o hb hl =>
    have hget : Eng.get (injS I φ st) (injLoc l).root = some (injR I φ st r1) := by rw [get_injS]; simp [injLoc, h1]
    have hst' : (injLoc l).steps = [] := by simp [injLoc, hst]
    have hA := hl ⟨⟨r1, hr⟩, fun hne => absurd hst hne⟩ (by
      unfold Eng.There
      simp only [hst']
      exact ⟨_, e, hget, by simp [injR, hm]⟩)
    unfold Eng.locA at hA
    simp only [hget, hst', injR, hm, Option.map_some, Option.some.injEq, Addr.mk.injEq] at hA
    obtain ⟨rfl, rfl, _⟩ := hA
    have hcell : ∀ j x, zs[j]? = some x → w.cell? ⟨g.ad l.root, l.off + j, none⟩ = some (us j) := by
      intro j x hj
      have := (h4 j x hj).1
      unfold Eng.rootV at this
      simp only [injR, hm, Nat.add_zero] at this
      exact this
    rcases hy with ⟨hag, rfl⟩ | ⟨hag, hy⟩
    · refine ⟨_, run_loadAt_agg hti.kn (us := us) (fun j hj => ?_) (by rw [← hti.agg]; exact hag), mkAg_ok (us := us) (by rw [hti.isAgg, hag]) (by simp [hn, hti.cells]) fun j c hj => ?_⟩
      · have hjl : j < zs.length := by rw [hn, hti.cells]; exact hj
        exact hcell j zs[j] (by simp [hjl])
      · have hjl := lt_of_get hj
        refine ⟨?_, (h4 j c hj).2⟩
        have : j < P.cellsOf t := by rw [← hti.cells, ← hn]; exact hjl
        simp [this]
    · have hj : zs[0]? = some y := by rw [hy]; rfl
      refine ⟨us 0, run_loadAt_one hti.kn (hcell 0 y hj) (by rw [← hti.agg]; exact hag), (h4 0 y hj).2⟩
end Go.Y
namespace Go.Y
open Go.Eng (T RepT RepM SRep Kept Base G SameOn VRep Split Live Free kn Owns ownB RootOk ERep HPred)
variable {P : Program} {I : Ids} {φ : FnP} {β : Base} {nt : Nat} {cs : List (Nat × Con)} {tb : Tabs}
variable {ρ : Type} {ls : List (Nat × LoopC ρ)} {r : ρ} {pins : List (Nat × Value)}
theorem soft_fin {o : Oper} {gd : Option (Gd L)} {stc st' : St L} {sto' : List (Nat × Root L)} (hd : ∀ d, o.dst = some d → d < nt) (hself : selfOk gd o.dst = true) {y : AV L}
    (hret : retK stc gd o.dst some y = some st')
    (hrun : ∀ (β : Base) (a : Act) (w : World) (g : G), Inv P I φ β ⟨stc.env, stc.gnv, sto'⟩ g w → EnvR P I φ ⟨stc.env, stc.gnv, sto'⟩ g w stc.env a.tmps → GnvR P I φ ⟨stc.env, stc.gnv, sto'⟩ g w stc.gnv a.tmps → Hold a.tmps (keysOf gd) → On gd → ∃ u, (execOp a.eval o).run P w = .ok (.value u) w ∧ ARep P I φ ⟨stc.env, stc.gnv, sto'⟩ g w y u) :
    ∃ st'' : St L, st''.sto = sto' ∧ (∀ d, o.dst = some d → get st''.env d = get st'.env d ∧ get st''.gnv d = get st'.gnv d) ∧ ∀ β, Does P I φ β nt o ⟨stc.env, stc.gnv, sto'⟩ gd st'' := by
  cases hdst : o.dst with
  | none =>
    exact ⟨⟨stc.env, stc.gnv, sto'⟩, rfl, fun d h => (by cases h), fun β => does_none hdst fun a w g hi he hn hh hon => by
      obtain ⟨u, h1, _⟩ := hrun β a w g hi he hn hh hon; exact ⟨u, h1⟩⟩
  | some d =>
    rw [hdst] at hret
    simp only [retK, Option.some.injEq] at hret
    subst hret
    refine ⟨putE ⟨stc.env, stc.gnv, sto'⟩ gd d y, by rw [putE_sto], fun d' h => ?_, fun β => does_pure hdst (hd d hdst) hself (hrun β)⟩
    rw [putE_sto2 (st := stc) (sto' := sto')]
    exact ⟨rfl, rfl⟩
theorem softN_ro {o : Op} (h : softN o = true) : readOnly tb o = true := by
  cases o <;> first | rfl | (simp [softN] at h)
theorem soft_ok (hT : TabOk P tb) (hop : ∀ β, OpOk P I φ β nt cs ([] : List (Nat × LoopC (St L))) tb) : SoftOk P I φ nt cs tb := by
  intro o gd stc st' sto' hd hself hs h hso
  by_cases hN : softN o.op = true
  · obtain ⟨st2, h1, h2, h3⟩ := softN_opS (sto' := sto') hN h
    exact ⟨st2, opS_readOnly (softN_ro hN) h1, fun d _ => ⟨by rw [h2], by rw [h3]⟩, does_of hop hd hself h1⟩
  · cases ho : o.op with
    | load t x =>
      have h0 := h
      unfold opS at h
      rw [ho] at h hs
      simp only [opK] at h
      obtain ⟨xv, hx, h1⟩ := oCase_some h
      clear h
      obtain ⟨i, hti, h⟩ := oCase_some h1
      clear h1
      have hI := ti_facts (hT t i hti)
      have run : ∀ (a : Act) (w : World) z, (Instr.loadAt t (a.eval x)).run P w = .ok z w → (execOp a.eval o).run P w = .ok (.value z) w := by
        intro a w z hz
        unfold execOp
        simp only [ho]
        exact run_v hz
      have hx' : @evalO L (semL cs) tb ⟨stc.env, stc.gnv, sto'⟩ (keysOf gd) 0 x = some xv := by rw [evalO_sto]; exact hx
      have hx2 : @evalO L (semL cs) tb stc (gdKeys gd) 0 x = some xv := hx
      simp only [softR, hx2] at hs
      split at h
      · rename_i l
        have hst : l.steps = [] := by simpa using hs
        unfold loadK at h
        obtain ⟨r1, hr, h1⟩ := oCase_some h
        clear h
        rw [hst] at h1
        simp only at h1
        split at h1
        · cases h1
        · rename_i e hm
          split at h1
          · cases h1
          · rename_i hlen
            have hlen := (beq_iff _ _).1 hlen
            split at h1
            · rename_i hag
              refine soft_fin hd hself h1 fun β a w g hi he hn hh hon => ?_
              obtain ⟨z, h2, h3⟩ := load_soft (cs := cs) hso hi hst hr hm hI (evalO_ok (P := P) (I := I) (φ := φ) (g := g) (w := w) he hn hh hx') hlen (.inl ⟨hag, rfl⟩)
              exact ⟨z, run a w z h2, h3⟩
            · rename_i hag
              split at h1
              · rename_i y hy
                refine soft_fin hd hself h1 fun β a w g hi he hn hh hon => ?_
                obtain ⟨z, h2, h3⟩ := load_soft (cs := cs) hso hi hst hr hm hI (evalO_ok (P := P) (I := I) (φ := φ) (g := g) (w := w) he hn hh hx') hlen (.inr ⟨hag, hy⟩)
                exact ⟨z, run a w z h2, h3⟩
              · cases h1
      · rename_i v
        split at h
        · rename_i hdec
          have h4 : opS cs tb ⟨stc.env, stc.gnv, sto'⟩ gd o = retK ⟨stc.env, stc.gnv, sto'⟩ gd o.dst some (.lf v) := by
            unfold opS
            rw [ho]
            simp only [opK, evalO_sto, hx2, hti, oCase, hdec]
            rfl
          have h5 : retK stc gd o.dst some (.lf v) = some st' := h
          cases hdst : o.dst with
          | none =>
            rw [hdst] at h4
            exact ⟨⟨stc.env, stc.gnv, sto'⟩, rfl, fun d h => (by cases h), does_of hop hd hself h4⟩
          | some d =>
            rw [hdst] at h4 h5
            simp only [retK, Option.some.injEq] at h5
            subst h5
            refine ⟨_, by rw [putE_sto], fun d' h => ?_, does_of hop hd hself h4⟩
            rw [putE_sto2 (st := stc) (sto' := sto')]
            exact ⟨rfl, rfl⟩
        · cases h
      · cases h
    | _ => rw [ho] at hs hN; first | (simp [softR] at hs; done) | exact absurd rfl hN
theorem drawOk (hmix : P.follows .mixedOrders = true) (hT : TabOk P tb) (hf : FnsOk (phi P I) cs) (hC : CallsOk P I (phi P I) cs tb) : DrawOk P I (phi P I) β nt cs ls tb pins :=
  draw_ok hf hmix (fun _ => op_ok hT hf hC) (soft_ok hT fun _ => op_ok hT hf hC) softWr_ok stays_ok
end Go.Y
namespace Go.Y
open Go.Eng (T RepT RepM SRep Kept Base G SameOn VRep Split Live Free kn)
variable {P : Program} {I : Ids} {φ : FnP} {cs : List (Nat × Con)} {tb : Tabs}
theorem get_consE {α : Type} {j : Nat} {x : α} {r : List (Nat × α)} {k : Nat} {y : α} (h : get ((j, x) :: r) k = some y) : (k = j ∧ y = x) ∨ get r k = some y := by
  rw [get_cons] at h
  split at h
  · rename_i hj; exact .inl ⟨hj.symm, (Option.some.inj h).symm⟩
  · exact .inr h
theorem noSome {α : Type} {r : α} {C : Prop} (h : none = some r) : C := by cases h
theorem get_nilE {α : Type} {k : Nat} {y : α} (h : get ([] : List (Nat × α)) k = some y) : False := by simp [get] at h
def lhAt (H : Hints) (k : Nat) : LH := match get H.loops k with | some h => h | none => default
def codeAt (k : Nat) (c : Code) : Code := match findLoop k c with | some b => b | none => .skip
def kget {ρ : Type} (ks : List (L → Option ρ)) (i : Nat) : L → Option ρ := match ks[i]? with | some k => k | none => fun _ => none
def lenK {X ρ : Type} (m : Nat) (G : X → List (L → Option ρ) → Option ρ) (x : X) (ks : List (L → Option ρ)) : Option ρ := match Nat.beq ks.length m with | true => G x ks | false => none
def mapK {ρ : Type} (ks : List (L → Option ρ)) : Nat → List Ty → List (L → Option ρ)
  | _, [] => []
  | i, t :: ts => (fun v => match v.as t with | some y => kget ks i ⟨t, y⟩ | none => none) :: mapK ks (i + 1) ts
theorem mapK_len {ρ : Type} (ks : List (L → Option ρ)) : ∀ (i : Nat) (ts : List Ty), (mapK ks i ts).length = ts.length
  | _, [] => rfl
  | i, _ :: ts => congrArg (· + 1) (mapK_len ks (i + 1) ts)
theorem mapK_ok {ρ : Type} (ks : List (L → Option ρ)) : ∀ (i : Nat) (ts : List Ty) (j : Nat) k', (mapK ks i ts)[j]? = some k' → i + ts.length ≤ ks.length → ∃ k, ks[i + j]? = some k ∧ ∀ v r, k' v = some r → k v = some r
  | _, [], j, k', h, _ => by simp [mapK] at h
  | i, t :: ts, j, k', h, hl => by
    simp only [List.length_cons] at hl
    cases j with
    | zero =>
      simp only [mapK, List.getElem?_cons_zero, Option.some.injEq] at h
      subst h
      have hi : ks[i]? = some ks[i] := List.getElem?_eq_getElem (by omega)
      refine ⟨_, hi, fun v r hv => ?_⟩
      have hv : (match v.as t with | some y => kget ks i ⟨t, y⟩ | none => none) = some r := hv
      split at hv
      · rename_i y hy
        rw [as_some hy]
        unfold kget at hv
        rw [hi] at hv
        exact hv
      · cases hv
    | succ j =>
      simp only [mapK, List.getElem?_cons_succ] at h
      obtain ⟨k0, h1, h2⟩ := mapK_ok ks (i + 1) ts j k' h (by omega)
      exact ⟨k0, by rw [← h1]; congr 1; omega, h2⟩
structure RoundOk (cs : List (Nat × Con)) {ρ : Type} (ls : List (Nat × LoopC ρ)) (tb : Tabs) (H : Hints) (fin : St L → (L → Option ρ) → Option ρ) (rt : Ty) (lh : LH) (body : Code) (ts tys : List Ty)
    (G : Nat → (tupTy ts).den → List (L → Option ρ) → Option ρ) : Prop where
  sh : leafs lh.sh = ts
  zero : ∀ x ks, G 0 x ks = none
  step : ∀ n x ks, @yround L (Option ρ) (semL cs) (semF ρ) (semR ρ cs ls) tb H fin rt lh body (unT ts x) (fun vs => match (tupL vs).as (tupTy ts) with | some x' => G n x' ks | none => none) (mapK ks 0 tys) = G (n + 1) x ks
theorem loopOk {ρ : Type} {ls : List (Nat × LoopC ρ)} {H : Hints} {fin : St L → (L → Option ρ) → Option ρ} {rt : Ty} {lh : LH} {body : Code} {ts tys : List Ty} {G : Nat → (tupTy ts).den → List (L → Option ρ) → Option ρ} {N : Nat}
    (h : RoundOk cs ls tb H fin rt lh body ts tys G) : LoopOk cs ls tb H fin rt ⟨tupTy ts, lenK tys.length (G N)⟩ lh body (fun n vs ks => match (tupL vs).as (tupTy ts) with | some x => lenK tys.length (G n) x ks | none => none) := by
  have len : ∀ n x ks r, lenK tys.length (G n) x ks = some r → ks.length = tys.length ∧ G n x ks = some r := by
    intro n x ks r hr
    unfold lenK at hr
    split at hr
    · rename_i hb; exact ⟨(beq_iff _ _).1 hb, hr⟩
    · cases hr
  have len' : ∀ n x (ks : List (L → Option ρ)), ks.length = tys.length → lenK tys.length (G n) x ks = G n x ks := by
    intro n x ks hl
    unfold lenK
    rw [hl, Nat.beq_refl]
  refine ⟨fun vs x ks r _ hx hr => ⟨N, ?_⟩, fun vs ks => ?_, fun n vs ks r hty hr => ?_⟩
  · have hx : (tupL vs).as (tupTy ts) = some x := hx
    show (match (tupL vs).as (tupTy ts) with | some x => lenK tys.length (G N) x ks | none => none) = some r
    rw [hx]; exact hr
  · show (match (tupL vs).as (tupTy ts) with | some x => lenK tys.length (G 0) x ks | none => none) = none
    split
    · unfold lenK
      split
      · exact h.zero _ _
      · rfl
    · rfl
  · have hr : (match (tupL vs).as (tupTy ts) with | some x => lenK tys.length (G (n + 1)) x ks | none => none) = some r := hr
    split at hr
    · rename_i x hx
      obtain ⟨h1, h2⟩ := len _ _ _ _ hr
      refine ⟨mapK ks 0 tys, by rw [mapK_len, h1], fun j k' hk => ?_, ?_⟩
      · obtain ⟨k, h3, h4⟩ := mapK_ok ks 0 tys j k' hk (by omega)
        exact ⟨k, by rw [← h3, Nat.zero_add], h4⟩
      · have hvs : unT ts x = vs := by
          have h3 : ∀ (ts : List Ty) (hts : vs.map (·.ty) = ts) (x : (tupTy ts).den), (tupL vs).as (tupTy ts) = some x → unT ts x = vs := by
            intro ts hts x hx
            subst hts
            exact unT_of vs x hx
          exact h3 ts (hty.trans h.sh) x hx
        have h5 := h.step n x ks
        rw [hvs, h2] at h5
        have he : (fun vs' => match (tupL vs').as (tupTy ts) with | some x => lenK tys.length (G n) x ks | none => none) = fun vs' => match (tupL vs').as (tupTy ts) with | some x' => G n x' ks | none => none := by
          funext vs'
          split
          · exact len' _ _ _ h1
          · rfl
        show @yround L (Option ρ) (semL cs) (semF ρ) (semR ρ cs ls) tb H fin rt lh body vs (fun vs' => match (tupL vs').as (tupTy ts) with | some x => lenK tys.length (G n) x ks | none => none) (mapK ks 0 tys) = some r
        rw [he]
        exact h5
    · cases hr
def LoopsL (cs : List (Nat × Con)) {ρ : Type} (ls : List (Nat × LoopC ρ)) (tb : Tabs) (H : Hints) (fin : St L → (L → Option ρ) → Option ρ) (rt : Ty) (c : Code) : Prop :=
  ∀ key lc, get ls key = some lc → ∃ Fn, LoopOk cs ls tb H fin rt lc (lhAt H key) (codeAt key c) Fn
theorem findLoop_mem {key : Nat} : ∀ {c b : Code}, findLoop key c = some b → b ∈ subLoops c ∧ codeKey b = key := by
  intro c
  induction c with
  | seq a b iha ihb =>
    intro d h
    simp only [findLoop] at h
    split at h
    · rename_i x hx
      simp only [Option.some.injEq] at h; subst h
      exact ⟨by simp [subLoops, (iha hx).1], (iha hx).2⟩
    · exact ⟨by simp [subLoops, (ihb h).1], (ihb h).2⟩
  | cond c a b iha ihb =>
    intro d h
    simp only [findLoop] at h
    split at h
    · rename_i x hx
      simp only [Option.some.injEq] at h; subst h
      exact ⟨by simp [subLoops, (iha hx).1], (iha hx).2⟩
    · exact ⟨by simp [subLoops, (ihb h).1], (ihb h).2⟩
  | block id c ih => intro d h; exact ih h
  | scope c ih => intro d h; exact ih h
  | loop c ih =>
    intro d h
    simp only [findLoop] at h
    split at h
    · rename_i hk
      simp only [Option.some.injEq] at h; subst h
      exact ⟨by simp [subLoops], (beq_iff _ _).1 hk⟩
    · exact ⟨by simp [subLoops, (ih h).1], (ih h).2⟩
  | _ => intro d h; simp [findLoop] at h
theorem findLoop_some {b : Code} : ∀ {c : Code}, b ∈ subLoops c → ∃ b', findLoop (codeKey b) c = some b' := by
  intro c
  induction c with
  | seq a d iha ihb =>
    intro h
    simp only [subLoops, List.mem_append] at h
    simp only [findLoop]
    cases hx : findLoop (codeKey b) a with
    | some x => exact ⟨x, rfl⟩
    | none =>
      rcases h with h | h
      · obtain ⟨y, hy⟩ := iha h; rw [hx] at hy; cases hy
      · exact ihb h
  | cond q a d iha ihb =>
    intro h
    simp only [subLoops, List.mem_append] at h
    simp only [findLoop]
    cases hx : findLoop (codeKey b) a with
    | some x => exact ⟨x, rfl⟩
    | none =>
      rcases h with h | h
      · obtain ⟨y, hy⟩ := iha h; rw [hx] at hy; cases hy
      · exact ihb h
  | block id c ih => intro h; exact ih h
  | scope c ih => intro h; exact ih h
  | loop c ih =>
    intro h
    simp only [subLoops, List.mem_cons] at h
    simp only [findLoop]
    cases hk : Nat.beq (codeKey c) (codeKey b) with
    | true => exact ⟨c, rfl⟩
    | false =>
      rcases h with rfl | h
      · rw [Nat.beq_refl] at hk; cases hk
      · exact ih h
  | _ => intro h; simp [subLoops] at h
theorem nodupN_inj {α : Type} (f : α → Nat) : ∀ {l : List α}, nodupN (l.map f) = true → ∀ a ∈ l, ∀ b ∈ l, f a = f b → a = b
  | [], _, a, ha, _, _, _ => by simp at ha
  | x :: r, h, a, ha, b, hb, hf => by
    simp only [List.map_cons, nodupN, Bool.and_eq_true, Bool.not_eq_true'] at h
    have hx : ∀ y ∈ r, f y ≠ f x := fun y hy he => by
      have : memN (f x) (r.map f) = true := memN_iff.2 (he ▸ List.mem_map.2 ⟨y, hy, rfl⟩)
      rw [this] at h; cases h.1
    rcases List.mem_cons.1 ha with ha1 | ha1
    · rcases List.mem_cons.1 hb with hb1 | hb1
      · rw [ha1, hb1]
      · rw [ha1] at hf; exact absurd hf.symm (hx b hb1)
    · rcases List.mem_cons.1 hb with hb1 | hb1
      · rw [hb1] at hf; exact absurd hf (hx a ha1)
      · exact nodupN_inj f h.2 a ha1 b hb1 hf
def funChk (fn : Func) (q : Fun) : Bool :=
  (fn.name == "runtime.NumGoroutine") == false && (codeOk fn.ntmps [] (fun _ => true) q.code && (finKeys q.H.fin q.res.length && (Nat.ble q.ts.length fn.ntmps && (nodupN ((subLoops q.code).map codeKey)))))
def keysLt : List (Nat × Con) → Bool
  | [] => true
  | (k, _) :: r => Nat.blt k 1000000 && keysLt r
theorem fnsOk_of {φ : FnP} : ∀ {cs : List (Nat × Con)}, keysLt cs = true → FnsOk φ cs := by
  intro cs h f c hg
  exfalso
  induction cs with
  | nil => simp [get] at hg
  | cons p r ih =>
    obtain ⟨k, d⟩ := p
    simp only [keysLt, Bool.and_eq_true] at h
    rcases get_consE hg with ⟨hk, _⟩ | hg
    · have := h.1
      rw [Nat.blt_eq] at this
      omega
    · exact ih h.2 hg
theorem phi_fnf {A : Ty} (hA : A.fnf = true) (x : A.den) : tr I (phi P I) A x = tr I phi0 A x := by
  unfold tr; rw [trc_fnf A hA]
def fieldyT : List Ty → Bool
  | [] => true
  | v :: r => v.fieldy && fieldyT r
theorem fieldyT_of : ∀ {vs : List L}, fieldyL vs = true → fieldyT (vs.map (·.ty)) = true
  | [], _ => rfl
  | v :: r, h => by
    simp only [fieldyL, Bool.and_eq_true] at h
    simp only [List.map_cons, fieldyT, Bool.and_eq_true]
    exact ⟨h.1, fieldyT_of h.2⟩
theorem tupTy_inj : ∀ {ts us : List Ty}, fieldyT ts = true → fieldyT us = true → tupTy ts = tupTy us → ts = us
  | [], [], _, _, _ => rfl
  | [], [u], _, h, he => by
    simp only [fieldyT, Bool.and_true] at h
    have he : Ty.unit = u := he
    subst he; cases h
  | [], u :: v :: r, _, _, he => by cases (show Ty.unit = Ty.pair u (tupTy (v :: r)) from he)
  | [t], [], h, _, he => by
    simp only [fieldyT, Bool.and_true] at h
    have he : t = Ty.unit := he
    subst he; cases h
  | t :: s :: r, [], _, _, he => by cases (show Ty.pair t (tupTy (s :: r)) = Ty.unit from he)
  | [t], [u], _, _, he => by have he : t = u := he; rw [he]
  | [t], u :: v :: r, h, _, he => by
    simp only [fieldyT, Bool.and_true] at h
    have he : t = Ty.pair u (tupTy (v :: r)) := he
    subst he; cases h
  | t :: s :: r, [u], _, h, he => by
    simp only [fieldyT, Bool.and_true] at h
    have he : Ty.pair t (tupTy (s :: r)) = u := he
    subst he; cases h
  | t :: s :: r, u :: v :: q, h1, h2, he => by
    have he : Ty.pair t (tupTy (s :: r)) = Ty.pair u (tupTy (v :: q)) := he
    simp only [Ty.pair.injEq] at he
    simp only [fieldyT, Bool.and_eq_true] at h1 h2
    rw [he.1, tupTy_inj (ts := s :: r) (us := v :: q) (by simp only [fieldyT, Bool.and_eq_true]; exact h1.2) (by simp only [fieldyT, Bool.and_eq_true]; exact h2.2) he.2]
theorem tupL_ty : ∀ (vs : List L), (tupL vs).ty = tupTy (vs.map (·.ty))
  | [] => rfl
  | [v] => rfl
  | v :: w :: r => by show Ty.pair v.ty (tupL (w :: r)).ty = Ty.pair v.ty (tupTy ((w :: r).map (·.ty))); rw [tupL_ty (w :: r)]
theorem fnVal {f : FuncId} {sg : Sig} {con : Con} (h : FnOk P I (phi P I) f sg con) (hA : con.A.fnf = true) (hB : con.B.fnf = true) (hin : tupTy (leafs sg.ins) = con.A) (hfy : fieldyT (leafs sg.ins) = true)
    (hm : sg.many = false) (ho : sg.out = ⟨[(0, .lf con.B)], [], []⟩) :
    ∀ w F, (phi P I con.A con.B con.F).p w F (.func (.func f) #[] #[]) := by
  intro w F
  refine ⟨hA, hB, f, rfl, h.fn, fun a r hF vs hx hvy w Fr us hFr hus hrep => ?_⟩
  have hty : (tupL vs).ty = con.A := by have := as_some hx; rw [this]
  have hts : vs.map (·.ty) = leafs sg.ins := tupTy_inj (fieldyT_of hvy) hfy (by rw [← tupL_ty, hty, hin])
  refine (h.run a r hF vs hx hts w Fr us hFr hus fun j v hv => ?_).mono fun e w' ⟨u, he, g', rs, hrs, hinv, hres⟩ => ?_
  · obtain ⟨u, hu, hr⟩ := hrep j v hv
    refine ⟨u, hu, ?_⟩
    rw [← trL_fnf (φ := phi0) (φ' := phi P I) (tupL_fnf vs (by rw [hty]; exact hA) v (List.mem_of_getElem? hv))]
    exact hr
  · subst he
    have hrs := hrs []
    rw [ho] at hrs hinv hres
    have hrs : some [(⟨con.B, r⟩ : L)] = some rs := hrs
    simp only [Option.some.injEq] at hrs
    subst hrs
    rw [hm] at hres
    have hu := arep_lf (hres (.lf ⟨con.B, r⟩) rfl)
    refine ⟨u, rfl, g'.F, ⟨hinv.k.os, hinv.k.tape, hinv.k.output, hinv.k.size, fun b hb => hinv.k.block b hb (fun h => h), hinv.k.F, fun b hb => ?_⟩, ?_⟩
    · rcases hinv.k.F' b hb with h | h | h
      · exact .inl h
      · exact h.elim
      · exact .inr ⟨h, hinv.f b hb⟩
    · rw [trL_fnf (φ := phi0) (φ' := phi P I) (v := ⟨con.B, r⟩) hB]
      exact hu
theorem TabOk.tt {T : List (Nat × TI)} (h : tabOk P ⟨T, [], []⟩ = true) : ∀ tb : Tabs, tb.tt = T → TabOk P tb := fun tb e t i hg => (TabOk.of h) t i (by rw [e] at hg; exact hg)
theorem fnOk2 {f : FuncId} {fn : Func} {q : Fun} {sg : Sig} (hmix : P.follows .mixedOrders = true) (hfn : P.funcs[f]? = some fn) (hbody : fn.body = some q.code) (hres : fn.results.toList = q.res)
    (hins : leafs sg.ins = q.ts) (hout : sg.out = q.H.fin.sh) (hmany : sg.many = decide (q.res.length ≠ 1)) (hB : q.B = tupTy (leafs q.H.fin.sh)) (hchk : funChk fn q = true) (hT : TabOk P q.tb)
    (hf : FnsOk (phi P I) q.cs) (hC : CallsOk P I (phi P I) q.cs q.tb) (hL : LoopsL q.cs q.ls q.tb q.H q.fin q.B q.code)
    (hrun : ∀ x : (tupTy q.ts).den, q.run (inSt q.ts x) = q.F x) : FnOk P I (phi P I) f sg q.con := by
  unfold funChk at hchk
  simp only [Bool.and_eq_true, beq_iff_eq] at hchk
  obtain ⟨h1, h2, h3, h4, h5⟩ := hchk
  refine fnOk hfn (by simpa using h1) hbody hres hins hout hmany hB hT hf hC (fun β => drawOk hmix hT hf hC) ?_ h2 h3 (Nat.le_of_ble_eq_true h4) hrun
  intro body hb lh lc hlh hlc
  obtain ⟨Fn, hF⟩ := hL _ lc hlc
  obtain ⟨b', hb'⟩ := findLoop_some hb
  obtain ⟨h7, h8⟩ := findLoop_mem hb'
  have : b' = body := nodupN_inj codeKey h5 b' h7 body hb h8
  subst this
  have e1 : lhAt q.H (codeKey b') = lh := by unfold lhAt; rw [hlh]
  have e2 : codeAt (codeKey b') q.code = b' := by unfold codeAt; rw [hb']
  rw [e1, e2] at hF
  exact ⟨Fn, hF⟩
end Go.Y
set_option maxRecDepth 100000
set_option linter.unusedVariables false
namespace Go.Y
open Go
def known_Any (N : Nat) : Option (Bool × Int) :=
  some (false, 0)
def span_Any (N : Nat) : Option (Int × Int) :=
  some ((-9223372036854775808), 9223372036854775807)
def fact_Any (N : Nat) : Option (Int × (Bool × Int) × (Int × Int) × Int) :=
  pCall (known_Any N) fun x0 =>
  pCall (span_Any N) fun x1 =>
  some (7, (x0.1, x0.2), (x1.1, x1.2), 3)
def sign_Of (N : Nat) (n0 : Int) : Option (Int) :=
  pIf (decide (n0 < 0))
    (some 1)
    (pIf (decide (n0 = 0))
      (some 2)
      (some 4))
def known_Of (N : Nat) (n0 : Int) : Option (Bool × Int) :=
  some (true, n0)
def span_Of (N : Nat) (n0 : Int) : Option (Int × Int) :=
  some (n0, n0)
def parity_Of (N : Nat) (n0 : Int) : Option (Int) :=
  pCk (decide (0 ≤ (band .i64 n0 1))) <|
  some (shlI .i64 1 (band .i64 n0 1))
def fact_Of (N : Nat) (n0 : Int) : Option (Int × (Bool × Int) × (Int × Int) × Int) :=
  pCall (sign_Of N n0) fun x0 =>
  pCall (known_Of N n0) fun x1 =>
  pCall (span_Of N n0) fun x2 =>
  pCall (parity_Of N n0) fun x3 =>
  some (x0, (x1.1, x1.2), (x2.1, x2.2), x3)
def state_Begin_l4 (N : Nat) (k0 : Bool × (List (Int × (Bool × Int) × (Int × Int) × Int)) × (List (List Int)) × Bool × (List (Int × (Bool × Int) × (Int × Int) × Int)) × List (List Int) → Option (Bool × (List (Int × (Bool × Int) × (Int × Int) × Int)) × List (List Int))) : Nat → (List (Int × (Bool × Int) × (Int × Int) × Int)) → Int → Int → Int → Bool → (List (Int × (Bool × Int) × (Int × Int) × Int)) → (List (List Int)) → Bool → (List (Int × (Bool × Int) × (Int × Int) × Int)) → (List (List Int)) → Option (Bool × (List (Int × (Bool × Int) × (Int × Int) × Int)) × List (List Int))
  | 0, _, _, _, _, _, _, _, _, _, _ => none
  | n + 1, args1, first2, t12, t13, t6_0, t6_1, t6_2, s7_0, s7_1, s7_2 =>
    pIf (decide (t13 < t12))
      (pCall (fact_Of N 0) fun x0 =>
      pJoin (fun (x1 : (List (Int × (Bool × Int) × (Int × Int) × Int)) × Int × Int × Int × Int × Bool × (List (Int × (Bool × Int) × (Int × Int) × Int)) × (List (List Int)) × Bool × (List (Int × (Bool × Int) × (Int × Int) × Int)) × (List (List Int)) × Int × Bool × Int × Int × Int × Int) =>
        pCk (room 48 (len (x1.2.2.2.2.2.2.2.2.2.1 ++ [(x1.2.2.2.2.2.2.2.2.2.2.2.1, (x1.2.2.2.2.2.2.2.2.2.2.2.2.1, x1.2.2.2.2.2.2.2.2.2.2.2.2.2.1), (x1.2.2.2.2.2.2.2.2.2.2.2.2.2.2.1, x1.2.2.2.2.2.2.2.2.2.2.2.2.2.2.2.1), x1.2.2.2.2.2.2.2.2.2.2.2.2.2.2.2.2)]))) <|
        pCk (room 24 (len (x1.2.2.2.2.2.2.2.2.2.2.1 ++ [[(wr .i64 (x1.2.1 + x1.2.2.1))]]))) <|
        state_Begin_l4 N k0 n x1.1 x1.2.1 x1.2.2.2.1 (wr .i64 (x1.2.2.2.2.1 + 1)) x1.2.2.2.2.2.1 x1.2.2.2.2.2.2.1 x1.2.2.2.2.2.2.2.1 x1.2.2.2.2.2.2.2.2.1 (x1.2.2.2.2.2.2.2.2.2.1 ++ [(x1.2.2.2.2.2.2.2.2.2.2.2.1, (x1.2.2.2.2.2.2.2.2.2.2.2.2.1, x1.2.2.2.2.2.2.2.2.2.2.2.2.2.1), (x1.2.2.2.2.2.2.2.2.2.2.2.2.2.2.1, x1.2.2.2.2.2.2.2.2.2.2.2.2.2.2.2.1), x1.2.2.2.2.2.2.2.2.2.2.2.2.2.2.2.2)]) (x1.2.2.2.2.2.2.2.2.2.2.1 ++ [[(wr .i64 (x1.2.1 + x1.2.2.1))]])) fun J1 =>
      pIf (decide (t13 < (len args1)))
        (pIdx args1 t13 fun x2 =>
        J1 (args1, first2, t13, t12, t13, t6_0, t6_1, t6_2, s7_0, s7_1, s7_2, x2.1, x2.2.1.1, x2.2.1.2, x2.2.2.1.1, x2.2.2.1.2, x2.2.2.2))
        (J1 (args1, first2, t13, t12, t13, t6_0, t6_1, t6_2, s7_0, s7_1, s7_2, x0.1, x0.2.1.1, x0.2.1.2, x0.2.2.1.1, x0.2.2.1.2, x0.2.2.2)))
      (k0 (t6_0, t6_1, t6_2, s7_0, s7_1, s7_2))
def state_Begin (N : Nat) (regs0 : Int) (args1 : List (Int × (Bool × Int) × (Int × Int) × Int)) (first2 : Int) : Option (Bool × (List (Int × (Bool × Int) × (Int × Int) × Int)) × List (List Int)) :=
  state_Begin_l4 N
    (fun x0 => some (x0.2.2.2.1, x0.2.2.2.2.1, x0.2.2.2.2.2)) N args1 first2 (mxI regs0 0) 0 false [] [] true [] []
def state_None (N : Nat) : Option (Bool × (List (Int × (Bool × Int) × (Int × Int) × Int)) × List (List Int)) :=
  some (false, [], [])
def bits_Right_l6 (N : Nat) (k0 : Unit → Option (Bool)) (k1 : Bool → Option (Bool)) : Nat → Int → Int → (List Int) → Int → Int → Option (Bool)
  | 0, _, _, _, _, _ => none
  | n + 1, n0, last5, t14, t15, t16 =>
    pIf (decide (t16 < t15))
      (pIdx t14 t16 fun x0 =>
      pLet (pick (decide (x0 ≤ last5)) true (decide (n0 ≤ x0))) fun x1 =>
      pIf x1
        (k1 false)
        (bits_Right_l6 N k0 k1 n n0 x0 t14 t15 (wr .i64 (t16 + 1))))
      (k0 ())
def bits_Right (N : Nat) (n0 : Int) (s1 : List Int) : Option (Bool) :=
  pLet (pick (decide (n0 < 0)) true (decide (4096 < n0))) fun x0 =>
  pIf x0
    (some false)
    (bits_Right_l6 N
      (fun x1 => some true)
      (fun x1 => some x1) N n0 (-1) s1 (len s1) 0)
def slices_IndexFunc_fact_Value_fact_Value_l3 (N : Nat) (k0 : Unit → Option (Int)) (k1 : Int → Option (Int)) : Nat → (List (Int × (Bool × Int) × (Int × Int) × Int)) → ((Int × (Bool × Int) × (Int × Int) × Int) → Option Bool) → Int → Int → Option (Int)
  | 0, _, _, _, _ => none
  | n + 1, s0, f1, t7, t8 =>
    pIf (decide (t8 < t7))
      (pIdx s0 t8 fun x0 =>
      pCall (f1 x0) fun x1 =>
      pIf x1
        (k1 t8)
        (slices_IndexFunc_fact_Value_fact_Value_l3 N k0 k1 n s0 f1 t7 (wr .i64 (t8 + 1))))
      (k0 ())
def slices_IndexFunc_fact_Value_fact_Value (N : Nat) (s0 : List (Int × (Bool × Int) × (Int × Int) × Int)) (f1 : (Int × (Bool × Int) × (Int × Int) × Int) → Option Bool) : Option (Int) :=
  slices_IndexFunc_fact_Value_fact_Value_l3 N
    (fun x0 => some (-1))
    (fun x0 => some x0) N s0 f1 (len s0) 0
def slices_ContainsFunc_fact_Value_fact_Value (N : Nat) (s0 : List (Int × (Bool × Int) × (Int × Int) × Int)) (f1 : (Int × (Bool × Int) × (Int × Int) × Int) → Option Bool) : Option (Bool) :=
  pCall (slices_IndexFunc_fact_Value_fact_Value N s0 f1) fun x0 =>
  some (decide (0 ≤ x0))
def sign_Right (N : Nat) (s0 : Int) : Option (Bool) :=
  pLet (pick (decide (1 ≤ s0)) (decide (s0 ≤ 7)) false) fun x0 =>
  some x0
def known_Known_tidy (N : Nat) (k0 : Bool × Int) : Option (Bool × Int) :=
  pJoin (fun (x0 : Bool × Int × Bool × Int) =>
    some (x0.1, x0.2.1)) fun J0 =>
  pIf (!k0.1)
    (J0 (k0.1, 0, false, 0))
    (J0 (k0.1, k0.2, false, 0))
def known_Right (N : Nat) (k0 : Bool × Int) : Option (Bool) :=
  pCall (known_Known_tidy N (k0.1, k0.2)) fun x0 =>
  some (((k0.1 == x0.1) && decide (k0.2 = x0.2)))
def span_Right (N : Nat) (s0 : Int × Int) : Option (Bool) :=
  some (decide (s0.1 ≤ s0.2))
def parity_Right (N : Nat) (p0 : Int) : Option (Bool) :=
  pLet (pick (decide (1 ≤ p0)) (decide (p0 ≤ 3)) false) fun x0 =>
  some x0
def fact_Right (N : Nat) (v0 : Int × (Bool × Int) × (Int × Int) × Int) : Option (Bool) :=
  pCall (sign_Right N v0.1) fun x0 =>
  pCallG x0 false (known_Right N (v0.2.1.1, v0.2.1.2)) fun x1 =>
  pLet (pick x0 x1 false) fun x2 =>
  pCallG x2 false (span_Right N (v0.2.2.1.1, v0.2.2.1.2)) fun x3 =>
  pLet (pick x2 x3 false) fun x4 =>
  pCallG x4 false (parity_Right N v0.2.2.2) fun x5 =>
  pLet (pick x4 x5 false) fun x6 =>
  some x6
def state_Right_1 (N : Nat) (v0 : Int × (Bool × Int) × (Int × Int) × Int) : Option (Bool) :=
  pCall (fact_Right N (v0.1, (v0.2.1.1, v0.2.1.2), (v0.2.2.1.1, v0.2.2.1.2), v0.2.2.2)) fun x0 =>
  some (!x0)
def state_Right_l7 (N : Nat) (k0 : Bool × (List (Int × (Bool × Int) × (Int × Int) × Int)) × List (List Int) → Option (Bool)) (k1 : Bool → Option (Bool)) : Nat → Int → (List (List Int)) → Int → Int → Bool → (List (Int × (Bool × Int) × (Int × Int) × Int)) → (List (List Int)) → Option (Bool)
  | 0, _, _, _, _, _, _, _ => none
  | n + 1, sites2, t25, t26, t27, s3_0, s3_1, s3_2 =>
    pIf (decide (t27 < t26))
      (pIdx t25 t27 fun x0 =>
      pCall (bits_Right N sites2 x0) fun x1 =>
      pIf (!x1)
        (k1 false)
        (state_Right_l7 N k0 k1 n sites2 t25 t26 (wr .i64 (t27 + 1)) s3_0 s3_1 s3_2))
      (k0 (s3_0, s3_1, s3_2))
def state_Right (N : Nat) (s0 : Bool × (List (Int × (Bool × Int) × (Int × Int) × Int)) × List (List Int)) (regs1 : Int) (sites2 : Int) : Option (Bool) :=
  pJoin (fun (x0 : Int × Int × Bool × (List (Int × (Bool × Int) × (Int × Int) × Int)) × List (List Int)) =>
    pLet (pick (!decide ((len x0.2.2.2.1) = x0.1)) true (!decide ((len x0.2.2.2.2) = x0.1))) fun x1 =>
    pIf x1
      (some false)
      (state_Right_l7 N
        (fun x2 => pCall (slices_ContainsFunc_fact_Value_fact_Value N x2.2.1 (fun x => state_Right_1 N x)) fun x3 =>
          some (!x3))
        (fun x2 => some x2) N x0.2.1 x0.2.2.2.2 (len x0.2.2.2.2) 0 x0.2.2.1 x0.2.2.2.1 x0.2.2.2.2)) fun J0 =>
  pIf (!s0.1)
    (J0 (0, sites2, s0.1, s0.2.1, s0.2.2))
    (J0 (regs1, sites2, s0.1, s0.2.1, s0.2.2))
def avermentlaw13_told (N : Nat) : Option (Bool) :=
  pCall (fact_Any N) fun x0 =>
  pCall (state_Begin N 2 [x0] 5) fun x1 =>
  pLet (pick x1.1 (decide ((len x1.2.1) = 2)) false) fun x2 =>
  pLet (pick x2 (decide ((len x1.2.2) = 2)) false) fun x3 =>
  pIdxG x3 (0, (false, 0), (0, 0), 0) x1.2.1 1 fun x4 =>
  pCallG x3 (0, (false, 0), (0, 0), 0) (fact_Of N 0) fun x5 =>
  pLet (pick x3 ((decide (x4.1 = x5.1) && (((x4.2.1.1 == x5.2.1.1) && decide (x4.2.1.2 = x5.2.1.2)) && ((decide (x4.2.2.1.1 = x5.2.2.1.1) && decide (x4.2.2.1.2 = x5.2.2.1.2)) && decide (x4.2.2.2 = x5.2.2.2))))) false) fun x6 =>
  pIdxG x6 [] x1.2.2 1 fun x7 =>
  pLet (pick x6 (decide ((len x7) = 1)) false) fun x8 =>
  pIdxG x8 [] x1.2.2 1 fun x9 =>
  pIdxG x8 0 x9 0 fun x10 =>
  pLet (pick x8 (decide (x10 = 6)) false) fun x11 =>
  pCallG x11 (false, [], []) (state_None N) fun x12 =>
  pLet (pick x11 (!x12.1) false) fun x13 =>
  pCallG x13 false (state_Right N (x1.1, x1.2.1, x1.2.2) 2 7) fun x14 =>
  pLet (pick x13 x14 false) fun x15 =>
  pCallG x15 false (state_Right N (x1.1, x1.2.1, x1.2.2) 2 6) fun x16 =>
  pLet (pick x15 (!x16) false) fun x17 =>
  some x17
def avermentref13_Regs (N : Nat) (s0 : Bool × (List (Int × (Bool × Int) × (Int × Int) × Int)) × List (List Int)) : Option (Int) :=
  some (mnI (len s0.2.1) (len s0.2.2))
def avermentref09_Clean (N : Nat) (k0 : Bool × Int) : Option (Bool × Int) :=
  pIf (!k0.1)
    (some (false, 0))
    (some (k0.1, k0.2))
def avermentref10_Fix (N : Nat) (s0 : Int × Int) : Option (Int × Int) :=
  pIf (decide (s0.2 < s0.1))
    (some (s0.2, s0.1))
    (some (s0.1, s0.2))
def avermentref12_Fix (N : Nat) (v0 : Int × (Bool × Int) × (Int × Int) × Int) : Option (Int × (Bool × Int) × (Int × Int) × Int) :=
  pJoin (fun (x0 : Int × Bool × Int × Int × Int × Int × Int × Bool × Int × Int × Int × Int) =>
    pJoin (fun (x1 : Int × Bool × Int × Int × Int × Int × Int × Bool × Int × Int × Int × Int) =>
      pCall (avermentref09_Clean N (x1.2.1, x1.2.2.1)) fun x2 =>
      pCall (avermentref10_Fix N (x1.2.2.2.1, x1.2.2.2.2.1)) fun x3 =>
      some (x1.1, (x2.1, x2.2), (x3.1, x3.2), x1.2.2.2.2.2.1)) fun J1 =>
    pIf (decide ((band .i64 x0.2.2.2.2.2.1 3) = 0))
      (J1 (x0.1, x0.2.1, x0.2.2.1, x0.2.2.2.1, x0.2.2.2.2.1, 3, x0.2.2.2.2.2.2.1, x0.2.2.2.2.2.2.2.1, x0.2.2.2.2.2.2.2.2.1, x0.2.2.2.2.2.2.2.2.2.1, x0.2.2.2.2.2.2.2.2.2.2.1, x0.2.2.2.2.2.2.2.2.2.2.2))
      (J1 (x0.1, x0.2.1, x0.2.2.1, x0.2.2.2.1, x0.2.2.2.2.1, (band .i64 x0.2.2.2.2.2.1 3), x0.2.2.2.2.2.2.1, x0.2.2.2.2.2.2.2.1, x0.2.2.2.2.2.2.2.2.1, x0.2.2.2.2.2.2.2.2.2.1, x0.2.2.2.2.2.2.2.2.2.2.1, x0.2.2.2.2.2.2.2.2.2.2.2))) fun J0 =>
  pIf (decide ((band .i64 v0.1 7) = 0))
    (J0 (7, v0.2.1.1, v0.2.1.2, v0.2.2.1.1, v0.2.2.1.2, v0.2.2.2, 0, false, 0, 0, 0, 0))
    (J0 ((band .i64 v0.1 7), v0.2.1.1, v0.2.1.2, v0.2.2.1.1, v0.2.2.1.2, v0.2.2.2, 0, false, 0, 0, 0, 0))
def avermentref04_Rise_l7 (N : Nat) (k0 : (List Int) × Int × Int × List Int → Option (List Int)) : Nat → (List Int) → Int → Int → (List Int) → Option (List Int)
  | 0, _, _, _, _ => none
  | n + 1, l0, i4, at5, out3 =>
    pCk (!(decide (at5 < (len out3))) || ((decide (0 ≤ at5)) && (decide (at5 < (len out3))))) <|
    pIdxG (decide (at5 < (len out3))) 0 out3 at5 fun x0 =>
    pIdxG (decide (at5 < (len out3))) 0 l0 i4 fun x1 =>
    pLet (pick (decide (at5 < (len out3))) (decide (x0 < x1)) false) fun x2 =>
    pIf x2
      (avermentref04_Rise_l7 N k0 n l0 i4 (wr .i64 (at5 + 1)) out3)
      (k0 (l0, i4, at5, out3))
def avermentref04_Rise_l4 (N : Nat) (k0 : List Int → Option (List Int)) : Nat → (List Int) → Int → (List Int) → Option (List Int)
  | 0, _, _, _ => none
  | n + 1, l0, i4, out3 =>
    pIf (decide (i4 < (len l0)))
      (pJoin (fun (x0 : (List Int) × Int × List Int) =>
        avermentref04_Rise_l4 N k0 n x0.1 (wr .i64 (x0.2.1 + 1)) x0.2.2) fun J0 =>
      avermentref04_Rise_l7 N
        (fun x1 => pCk (!(decide (x1.2.2.1 < (len x1.2.2.2))) || ((decide (0 ≤ x1.2.2.1)) && (decide (x1.2.2.1 < (len x1.2.2.2))))) <|
          pIdxG (decide (x1.2.2.1 < (len x1.2.2.2))) 0 x1.2.2.2 x1.2.2.1 fun x2 =>
          pIdxG (decide (x1.2.2.1 < (len x1.2.2.2))) 0 x1.1 x1.2.1 fun x3 =>
          pLet (pick (decide (x1.2.2.1 < (len x1.2.2.2))) (decide (x2 = x3)) false) fun x4 =>
          pIf x4
            (J0 (x1.1, x1.2.1, x1.2.2.2))
            (pIdx x1.1 x1.2.1 fun x5 =>
            pCk ((decide (0 ≤ x1.2.2.1)) && (decide (x1.2.2.1 ≤ (len x1.2.2.2)))) <|
            pCk ((decide (0 ≤ 0)) && (decide (0 ≤ x1.2.2.1))) <|
            pCk (room 8 (len ([] ++ (sub x1.2.2.2 0 x1.2.2.1)))) <|
            pCk (room 8 (len (([] ++ (sub x1.2.2.2 0 x1.2.2.1)) ++ [x5]))) <|
            pCk ((decide (0 ≤ (len x1.2.2.2))) && (decide ((len x1.2.2.2) ≤ (len x1.2.2.2)))) <|
            pCk ((decide (0 ≤ x1.2.2.1)) && (decide (x1.2.2.1 ≤ (len x1.2.2.2)))) <|
            pCk (room 8 (len ((([] ++ (sub x1.2.2.2 0 x1.2.2.1)) ++ [x5]) ++ (sub x1.2.2.2 x1.2.2.1 (len x1.2.2.2))))) <|
            J0 (x1.1, x1.2.1, ((([] ++ (sub x1.2.2.2 0 x1.2.2.1)) ++ [x5]) ++ (sub x1.2.2.2 x1.2.2.1 (len x1.2.2.2)))))) N l0 i4 0 out3)
      (k0 out3)
def avermentref04_Rise (N : Nat) (l0 : List Int) : Option (List Int) :=
  avermentref04_Rise_l4 N
    (fun x0 => some x0) N l0 0 []
def avermentref13_Fix_l10 (N : Nat) (k0 : Int × Int × Int × Bool × (List (Int × (Bool × Int) × (Int × Int) × Int)) × (List (List Int)) × Bool × (List (Int × (Bool × Int) × (Int × Int) × Int)) × (List (List Int)) × Bool × (List (Int × (Bool × Int) × (Int × Int) × Int)) × (List (List Int)) × List Int → Option (Bool × (List (Int × (Bool × Int) × (Int × Int) × Int)) × List (List Int))) : Nat → Int → Int → Int → Int → Bool → (List (Int × (Bool × Int) × (Int × Int) × Int)) → (List (List Int)) → Bool → (List (Int × (Bool × Int) × (Int × Int) × Int)) → (List (List Int)) → Bool → (List (Int × (Bool × Int) × (Int × Int) × Int)) → (List (List Int)) → (List Int) → Option (Bool × (List (Int × (Bool × Int) × (Int × Int) × Int)) × List (List Int))
  | 0, _, _, _, _, _, _, _, _, _, _, _, _, _, _ => none
  | n + 1, regs1, sites2, r8, i10, s3_0, s3_1, s3_2, t6_0, t6_1, t6_2, out7_0, out7_1, out7_2, l9 =>
    pIdx s3_2 r8 fun x0 =>
    pLet (pick (decide (i10 < (len x0))) (decide (i10 < 60)) false) fun x1 =>
    pIf x1
      (pIdx s3_2 r8 fun x2 =>
      pIdx x2 i10 fun x3 =>
      pCk (!decide ((wr .u64 sites2) = 0)) <|
      pCk (room 8 (len (l9 ++ [(wr .i64 (remI (wr .u64 x3) (wr .u64 sites2)))]))) <|
      avermentref13_Fix_l10 N k0 n regs1 sites2 r8 (wr .i64 (i10 + 1)) s3_0 s3_1 s3_2 t6_0 t6_1 t6_2 out7_0 out7_1 out7_2 (l9 ++ [(wr .i64 (remI (wr .u64 x3) (wr .u64 sites2)))]))
      (k0 (regs1, sites2, r8, s3_0, s3_1, s3_2, t6_0, t6_1, t6_2, out7_0, out7_1, out7_2, l9))
def avermentref13_Fix_l6 (N : Nat) (k0 : Bool × (List (Int × (Bool × Int) × (Int × Int) × Int)) × (List (List Int)) × Bool × (List (Int × (Bool × Int) × (Int × Int) × Int)) × List (List Int) → Option (Bool × (List (Int × (Bool × Int) × (Int × Int) × Int)) × List (List Int))) : Nat → Int → Int → Int → Bool → (List (Int × (Bool × Int) × (Int × Int) × Int)) → (List (List Int)) → Bool → (List (Int × (Bool × Int) × (Int × Int) × Int)) → (List (List Int)) → Bool → (List (Int × (Bool × Int) × (Int × Int) × Int)) → (List (List Int)) → Option (Bool × (List (Int × (Bool × Int) × (Int × Int) × Int)) × List (List Int))
  | 0, _, _, _, _, _, _, _, _, _, _, _, _ => none
  | n + 1, regs1, sites2, r8, s3_0, s3_1, s3_2, t6_0, t6_1, t6_2, out7_0, out7_1, out7_2 =>
    pCall (avermentref13_Regs N (s3_0, s3_1, s3_2)) fun x0 =>
    pLet (pick (decide (r8 < x0)) (decide (r8 < regs1)) false) fun x1 =>
    pIf x1
      (avermentref13_Fix_l10 N
        (fun x2 => pIdx x2.2.2.2.2.1 x2.2.2.1 fun x3 =>
          pCall (avermentref12_Fix N x3) fun x4 =>
          pCk (room 48 (len (x2.2.2.2.2.2.2.2.2.2.2.1 ++ [x4]))) <|
          pCall (avermentref04_Rise N x2.2.2.2.2.2.2.2.2.2.2.2.2) fun x5 =>
          pCk (room 24 (len (x2.2.2.2.2.2.2.2.2.2.2.2.1 ++ [x5]))) <|
          avermentref13_Fix_l6 N k0 n x2.1 x2.2.1 (wr .i64 (x2.2.2.1 + 1)) x2.2.2.2.1 x2.2.2.2.2.1 x2.2.2.2.2.2.1 x2.2.2.2.2.2.2.1 x2.2.2.2.2.2.2.2.1 x2.2.2.2.2.2.2.2.2.1 x2.2.2.2.2.2.2.2.2.2.1 (x2.2.2.2.2.2.2.2.2.2.2.1 ++ [x4]) (x2.2.2.2.2.2.2.2.2.2.2.2.1 ++ [x5])) N regs1 sites2 r8 0 s3_0 s3_1 s3_2 t6_0 t6_1 t6_2 out7_0 out7_1 out7_2 [])
      (k0 (t6_0, t6_1, t6_2, out7_0, out7_1, out7_2))
def avermentref13_Fix (N : Nat) (s0 : Bool × (List (Int × (Bool × Int) × (Int × Int) × Int)) × List (List Int)) (regs1 : Int) (sites2 : Int) : Option (Bool × (List (Int × (Bool × Int) × (Int × Int) × Int)) × List (List Int)) :=
  pIf (!s0.1)
    (some (false, [], []))
    (avermentref13_Fix_l6 N
      (fun x0 => some (x0.2.2.2.1, x0.2.2.2.2.1, x0.2.2.2.2.2)) N regs1 sites2 0 s0.1 s0.2.1 s0.2.2 false [] [] true [] [])
def avermentlaw13_fix (N : Nat) (s0 : Bool × (List (Int × (Bool × Int) × (Int × Int) × Int)) × List (List Int)) : Option (Bool × (List (Int × (Bool × Int) × (Int × Int) × Int)) × List (List Int)) :=
  pCall (avermentref13_Fix N (s0.1, s0.2.1, s0.2.2) 6 70) fun x0 =>
  some (x0.1, x0.2.1, x0.2.2)
def avermentlaw09_To (N : Nat) (k0 : Bool × Int) : Option (Bool × Int) :=
  some (k0.1, k0.2)
def avermentlaw10_To (N : Nat) (s0 : Int × Int) : Option (Int × Int) :=
  some (s0.1, s0.2)
def avermentlaw12_To (N : Nat) (v0 : Int × (Bool × Int) × (Int × Int) × Int) : Option (Int × (Bool × Int) × (Int × Int) × Int) :=
  pCall (avermentlaw09_To N (v0.2.1.1, v0.2.1.2)) fun x0 =>
  pCall (avermentlaw10_To N (v0.2.2.1.1, v0.2.2.1.2)) fun x1 =>
  some (v0.1, (x0.1, x0.2), (x1.1, x1.2), v0.2.2.2)
def avermentlaw13_To_l4 (N : Nat) (k0 : Bool × (List (Int × (Bool × Int) × (Int × Int) × Int)) × (List (List Int)) × Bool × (List (Int × (Bool × Int) × (Int × Int) × Int)) × (List (List Int)) × Bool × (List (Int × (Bool × Int) × (Int × Int) × Int)) × List (List Int) → Option (Bool × (List (Int × (Bool × Int) × (Int × Int) × Int)) × List (List Int))) : Nat → Int → Bool → (List (Int × (Bool × Int) × (Int × Int) × Int)) → (List (List Int)) → Bool → (List (Int × (Bool × Int) × (Int × Int) × Int)) → (List (List Int)) → Bool → (List (Int × (Bool × Int) × (Int × Int) × Int)) → (List (List Int)) → Option (Bool × (List (Int × (Bool × Int) × (Int × Int) × Int)) × List (List Int))
  | 0, _, _, _, _, _, _, _, _, _, _ => none
  | n + 1, r4, s1_0, s1_1, s1_2, t2_0, t2_1, t2_2, out3_0, out3_1, out3_2 =>
    pIf (decide (r4 < (len s1_1)))
      (pIdx s1_1 r4 fun x0 =>
      pCall (avermentlaw12_To N x0) fun x1 =>
      pCk (room 48 (len (out3_1 ++ [x1]))) <|
      avermentlaw13_To_l4 N k0 n (wr .i64 (r4 + 1)) s1_0 s1_1 s1_2 t2_0 t2_1 t2_2 out3_0 (out3_1 ++ [x1]) out3_2)
      (k0 (s1_0, s1_1, s1_2, t2_0, t2_1, t2_2, out3_0, out3_1, out3_2))
def avermentlaw13_To_l8 (N : Nat) (k0 : Bool × (List (Int × (Bool × Int) × (Int × Int) × Int)) × (List (List Int)) × Bool × (List (Int × (Bool × Int) × (Int × Int) × Int)) × List (List Int) → Option (Bool × (List (Int × (Bool × Int) × (Int × Int) × Int)) × List (List Int))) : Nat → Int → Bool → (List (Int × (Bool × Int) × (Int × Int) × Int)) → (List (List Int)) → Bool → (List (Int × (Bool × Int) × (Int × Int) × Int)) → (List (List Int)) → Bool → (List (Int × (Bool × Int) × (Int × Int) × Int)) → (List (List Int)) → Option (Bool × (List (Int × (Bool × Int) × (Int × Int) × Int)) × List (List Int))
  | 0, _, _, _, _, _, _, _, _, _, _ => none
  | n + 1, r5, s1_0, s1_1, s1_2, t2_0, t2_1, t2_2, out3_0, out3_1, out3_2 =>
    pIf (decide (r5 < (len s1_2)))
      (pIdx s1_2 r5 fun x0 =>
      pCk (room 8 (len ([] ++ x0))) <|
      pCk (room 24 (len (out3_2 ++ [([] ++ x0)]))) <|
      avermentlaw13_To_l8 N k0 n (wr .i64 (r5 + 1)) s1_0 s1_1 s1_2 t2_0 t2_1 t2_2 out3_0 out3_1 (out3_2 ++ [([] ++ x0)]))
      (k0 (t2_0, t2_1, t2_2, out3_0, out3_1, out3_2))
def avermentlaw13_To (N : Nat) (s0 : Bool × (List (Int × (Bool × Int) × (Int × Int) × Int)) × List (List Int)) : Option (Bool × (List (Int × (Bool × Int) × (Int × Int) × Int)) × List (List Int)) :=
  avermentlaw13_To_l4 N
    (fun x0 => avermentlaw13_To_l8 N
        (fun x1 => some (x1.2.2.2.1, x1.2.2.2.2.1, x1.2.2.2.2.2)) N 0 x0.1 x0.2.1 x0.2.2.1 x0.2.2.2.1 x0.2.2.2.2.1 x0.2.2.2.2.2.1 x0.2.2.2.2.2.2.1 x0.2.2.2.2.2.2.2.1 x0.2.2.2.2.2.2.2.2) N 0 s0.1 s0.2.1 s0.2.2 false [] [] s0.1 [] []
def avermentref12_Right (N : Nat) (v0 : Int × (Bool × Int) × (Int × Int) × Int) : Option (Bool) :=
  pLet (pick (decide (1 ≤ v0.1)) (decide (v0.1 ≤ 7)) false) fun x0 =>
  pLet (pick v0.2.1.1 true (decide (v0.2.1.2 = 0))) fun x1 =>
  pLet (pick x0 x1 false) fun x2 =>
  pLet (pick x2 (decide (v0.2.2.1.1 ≤ v0.2.2.1.2)) false) fun x3 =>
  pLet (pick x3 (decide (1 ≤ v0.2.2.2)) false) fun x4 =>
  pLet (pick x4 (decide (v0.2.2.2 ≤ 3)) false) fun x5 =>
  some x5
def avermentref03_Right_l5 (N : Nat) (k0 : Unit → Option (Bool)) (k1 : Bool → Option (Bool)) : Nat → Int → (List Int) → Int → Option (Bool)
  | 0, _, _, _ => none
  | n + 1, n0, s1, i5 =>
    pIf (decide (i5 < (len s1)))
      (pIdx s1 i5 fun x0 =>
      pIdxG (!(decide (x0 < 0))) 0 s1 i5 fun x1 =>
      pLet (pick (decide (x0 < 0)) true (decide (n0 ≤ x1))) fun x2 =>
      pIdxG ((!x2) && (decide (0 < i5))) 0 s1 i5 fun x3 =>
      pIdxG ((!x2) && (decide (0 < i5))) 0 s1 (wr .i64 (i5 - 1)) fun x4 =>
      pLet (pick (decide (0 < i5)) (decide (x3 ≤ x4)) false) fun x5 =>
      pLet (pick x2 true x5) fun x6 =>
      pIf x6
        (k1 false)
        (avermentref03_Right_l5 N k0 k1 n n0 s1 (wr .i64 (i5 + 1))))
      (k0 ())
def avermentref03_Right (N : Nat) (n0 : Int) (s1 : List Int) : Option (Bool) :=
  pLet (pick (decide (n0 < 0)) true (decide (4096 < n0))) fun x0 =>
  pIf x0
    (some false)
    (avermentref03_Right_l5 N
      (fun x1 => some true)
      (fun x1 => some x1) N n0 s1 0)
def avermentref13_Right_l7 (N : Nat) (k0 : Unit → Option (Bool)) (k1 : Bool → Option (Bool)) : Nat → Int → Int → Int → Bool → (List (Int × (Bool × Int) × (Int × Int) × Int)) → (List (List Int)) → Option (Bool)
  | 0, _, _, _, _, _, _ => none
  | n + 1, regs1, sites2, r7, s3_0, s3_1, s3_2 =>
    pIf (decide (r7 < regs1))
      (pIdx s3_1 r7 fun x0 =>
      pCall (avermentref12_Right N x0) fun x1 =>
      pIdxG (!(!x1)) [] s3_2 r7 fun x2 =>
      pCallG (!(!x1)) false (avermentref03_Right N sites2 x2) fun x3 =>
      pLet (pick (!x1) true (!x3)) fun x4 =>
      pIf x4
        (k1 false)
        (avermentref13_Right_l7 N k0 k1 n regs1 sites2 (wr .i64 (r7 + 1)) s3_0 s3_1 s3_2))
      (k0 ())
def avermentref13_Right (N : Nat) (s0 : Bool × (List (Int × (Bool × Int) × (Int × Int) × Int)) × List (List Int)) (regs1 : Int) (sites2 : Int) : Option (Bool) :=
  pIf (!s0.1)
    (pLet (pick (decide ((len s0.2.1) = 0)) (decide ((len s0.2.2) = 0)) false) fun x0 =>
    some x0)
    (pLet (pick (!decide ((len s0.2.1) = regs1)) true (!decide ((len s0.2.2) = regs1))) fun x0 =>
    pIf x0
      (some false)
      (avermentref13_Right_l7 N
        (fun x1 => some true)
        (fun x1 => some x1) N regs1 sites2 0 s0.1 s0.2.1 s0.2.2))
def avermentlaw13_StateRight_l5 (N : Nat) (k0 : Int × Int × Bool × (List (Int × (Bool × Int) × (Int × Int) × Int)) × List (List Int) → Option (Bool)) (k1 : Bool → Option (Bool)) : Nat → Int → Int → Int → Bool → (List (Int × (Bool × Int) × (Int × Int) × Int)) → (List (List Int)) → Option (Bool)
  | 0, _, _, _, _, _, _ => none
  | n + 1, regs1, sites2, i7, s3_0, s3_1, s3_2 =>
    pIf (decide (i7 < (len s3_2)))
      (pIdx s3_2 i7 fun x0 =>
      pIf (decide (100 < (len x0)))
        (pCall (avermentlaw13_told N) fun x1 =>
        k1 x1)
        (avermentlaw13_StateRight_l5 N k0 k1 n regs1 sites2 (wr .i64 (i7 + 1)) s3_0 s3_1 s3_2))
      (k0 (regs1, sites2, s3_0, s3_1, s3_2))
def avermentlaw13_StateRight (N : Nat) (s0 : Bool × (List (Int × (Bool × Int) × (Int × Int) × Int)) × List (List Int)) (regs1 : Int) (sites2 : Int) : Option (Bool) :=
  pLet (pick (decide (40 < (len s0.2.1))) true (decide (40 < (len s0.2.2)))) fun x0 =>
  pIf x0
    (pCall (avermentlaw13_told N) fun x1 =>
    some x1)
    (avermentlaw13_StateRight_l5 N
      (fun x1 => pCall (avermentlaw13_fix N (x1.2.2.1, x1.2.2.2.1, x1.2.2.2.2)) fun x2 =>
        pCall (avermentlaw13_told N) fun x3 =>
        pCallG x3 (false, [], []) (avermentlaw13_To N (x1.2.2.1, x1.2.2.2.1, x1.2.2.2.2)) fun x4 =>
        pCallG x3 false (state_Right N x4 x1.1 x1.2.1) fun x5 =>
        pCallG x3 false (avermentref13_Right N (x1.2.2.1, x1.2.2.2.1, x1.2.2.2.2) x1.1 x1.2.1) fun x6 =>
        pLet (pick x3 ((x5 == x6)) false) fun x7 =>
        pCallG x7 (false, [], []) (avermentlaw13_To N (x2.1, x2.2.1, x2.2.2)) fun x8 =>
        pCallG x7 false (state_Right N x8 (len x2.2.1) 70) fun x9 =>
        pLet (pick x7 x9 false) fun x10 =>
        some x10)
      (fun x1 => some x1) N regs1 sites2 0 s0.1 s0.2.1 s0.2.2)
end Go.Y
set_option maxRecDepth 100000
set_option linter.unusedVariables false
noncomputable section
namespace Go.Proofs.Ytglcpndffekmhaa
open Go.Y Go
def ids : Ids := ⟨0, 0, 0, 0, 0⟩
@[reducible] def Y0 : Ty := .st (.pair .bool (.int .i64))
@[reducible] def Y1 : Ty := .st (.pair (.int .i64) (.int .i64))
@[reducible] def Y2 : Ty := .st (.pair (.int .i64) (.pair Y0 (.pair Y1 (.int .i64))))
@[reducible] def Y3 : Ty := .st (.pair .bool (.pair (.sl 42 Y2) (.sl 27 (.sl 3 (.int .i64)))))
@[reducible] def Y4 : Ty := .st (.pair .bool (.pair (.sl 47 Y2) (.sl 27 (.sl 3 (.int .i64)))))
theorem mix : Try.prog.follows .mixedOrders = true := by kernel_rfl
noncomputable def TT : List (Nat × TI) := [(2, ⟨(.int .i64), 1, false, 8, 0, [], true, true⟩), (3, ⟨(.int .i64), 1, false, 8, 0, [], true, true⟩), (4, ⟨.bool, 1, false, 1, 0, [], true, true⟩), (22, ⟨(.sl 42 Y2), 1, false, 24, 42, [], false, true⟩), (23, ⟨(.sl 27 (.sl 3 (.int .i64))), 1, false, 24, 27, [], false, true⟩), (25, ⟨Y3, 3, true, 56, 0, [(0, 4), (1, 22), (2, 23)], false, true⟩), (27, ⟨(.sl 3 (.int .i64)), 1, false, 24, 3, [], false, true⟩), (30, ⟨(.sl 47 Y2), 1, false, 24, 47, [], false, true⟩), (32, ⟨Y4, 3, true, 56, 0, [(0, 4), (1, 30), (2, 23)], false, true⟩), (38, ⟨Y0, 2, true, 16, 0, [(0, 4), (1, 2)], true, true⟩), (40, ⟨Y1, 2, true, 16, 0, [(0, 2), (1, 2)], true, true⟩), (42, ⟨Y2, 6, true, 48, 0, [(0, 3), (1, 38), (3, 40), (5, 3)], true, true⟩), (44, ⟨Y0, 2, true, 16, 0, [(0, 4), (1, 2)], true, true⟩), (45, ⟨Y1, 2, true, 16, 0, [(0, 2), (1, 2)], true, true⟩), (47, ⟨Y2, 6, true, 48, 0, [(0, 3), (1, 44), (3, 45), (5, 3)], true, true⟩), (49, ⟨(.int .u64), 1, false, 8, 0, [], true, true⟩), (72, ⟨(.fn Y2 .bool), 1, false, 8, 0, [], false, false⟩)]
theorem tt_ok : ∀ tb : Tabs, tb.tt = TT → TabOk Try.prog tb := TabOk.tt (by kernel_rfl)
noncomputable def known_Any_tb : Tabs := ⟨TT, [], []⟩
noncomputable def known_Any_H : Hints := ⟨[], [], [], ⟨⟨[0], [], [], []⟩, ⟨[(0, (.lf Y0))], [], []⟩⟩⟩
noncomputable def known_Any_sig : Sig := ⟨⟨[], [], []⟩, ⟨[(0, (.lf Y0))], [], []⟩, false⟩
noncomputable def known_Any_code : Code := match Try.f57.body with | some c => c | none => .skip
noncomputable def known_Any_res : List ResultVar := Try.f57.results.toList
noncomputable def known_Any_con (N : Nat) : Con := ⟨.unit, Y0, fun x => known_Any N⟩
noncomputable def known_Any_cs (N : Nat) : List (Nat × Con) := []
noncomputable def known_Any_ls (N : Nat) : List (Nat × LoopC (Bool × Int)) := []
noncomputable def known_Any_fun (N : Nat) : Fun := ⟨[], known_Any_tb, known_Any_H, known_Any_cs N, Y0, (known_Any_con N).F, known_Any_code, known_Any_res, known_Any_ls N⟩
theorem known_Any_run (N : Nat) (x : (tupTy []).den) : (known_Any_fun N).run (inSt [] x) = (known_Any_con N).F x := by kernel_rfl
theorem known_Any_calls (N : Nat) : CallsOk Try.prog ids (phi Try.prog ids) (known_Any_cs N) known_Any_tb := fun k sg con h1 h2 => by
  exact (get_nilE h2).elim
theorem known_Any_loops (N : Nat) : LoopsL (ρ := (known_Any_fun N).B.den) (known_Any_fun N).cs (known_Any_fun N).ls (known_Any_fun N).tb (known_Any_fun N).H (known_Any_fun N).fin (known_Any_fun N).B (known_Any_fun N).code := fun k lc h => by
  exact (get_nilE h).elim
theorem known_Any_ok (N : Nat) : FnOk Try.prog ids (phi Try.prog ids) 57 known_Any_sig (known_Any_con N) :=
  fnOk2 (q := known_Any_fun N) mix Try.func57 (by kernel_rfl) (by kernel_rfl) (by kernel_rfl) (by kernel_rfl) (by kernel_rfl) (by kernel_rfl) (by kernel_rfl) (tt_ok _ rfl) (fnsOk_of (by kernel_rfl)) (known_Any_calls N) (known_Any_loops N) (known_Any_run N)
noncomputable def span_Any_tb : Tabs := ⟨TT, [], []⟩
noncomputable def span_Any_H : Hints := ⟨[], [], [], ⟨⟨[0], [], [], []⟩, ⟨[(0, (.lf Y1))], [], []⟩⟩⟩
noncomputable def span_Any_sig : Sig := ⟨⟨[], [], []⟩, ⟨[(0, (.lf Y1))], [], []⟩, false⟩
noncomputable def span_Any_code : Code := match Try.f58.body with | some c => c | none => .skip
noncomputable def span_Any_res : List ResultVar := Try.f58.results.toList
noncomputable def span_Any_con (N : Nat) : Con := ⟨.unit, Y1, fun x => span_Any N⟩
noncomputable def span_Any_cs (N : Nat) : List (Nat × Con) := []
noncomputable def span_Any_ls (N : Nat) : List (Nat × LoopC (Int × Int)) := []
noncomputable def span_Any_fun (N : Nat) : Fun := ⟨[], span_Any_tb, span_Any_H, span_Any_cs N, Y1, (span_Any_con N).F, span_Any_code, span_Any_res, span_Any_ls N⟩
theorem span_Any_run (N : Nat) (x : (tupTy []).den) : (span_Any_fun N).run (inSt [] x) = (span_Any_con N).F x := by kernel_rfl
theorem span_Any_calls (N : Nat) : CallsOk Try.prog ids (phi Try.prog ids) (span_Any_cs N) span_Any_tb := fun k sg con h1 h2 => by
  exact (get_nilE h2).elim
theorem span_Any_loops (N : Nat) : LoopsL (ρ := (span_Any_fun N).B.den) (span_Any_fun N).cs (span_Any_fun N).ls (span_Any_fun N).tb (span_Any_fun N).H (span_Any_fun N).fin (span_Any_fun N).B (span_Any_fun N).code := fun k lc h => by
  exact (get_nilE h).elim
theorem span_Any_ok (N : Nat) : FnOk Try.prog ids (phi Try.prog ids) 58 span_Any_sig (span_Any_con N) :=
  fnOk2 (q := span_Any_fun N) mix Try.func58 (by kernel_rfl) (by kernel_rfl) (by kernel_rfl) (by kernel_rfl) (by kernel_rfl) (by kernel_rfl) (by kernel_rfl) (tt_ok _ rfl) (fnsOk_of (by kernel_rfl)) (span_Any_calls N) (span_Any_loops N) (span_Any_run N)
noncomputable def fact_Any_tb : Tabs := ⟨TT, [(57, known_Any_sig), (58, span_Any_sig)], []⟩
noncomputable def fact_Any_H : Hints := ⟨[], [], [], ⟨⟨[0], [], [], []⟩, ⟨[(0, (.lf Y2))], [], []⟩⟩⟩
noncomputable def fact_Any_sig : Sig := ⟨⟨[], [], []⟩, ⟨[(0, (.lf Y2))], [], []⟩, false⟩
noncomputable def fact_Any_code : Code := match Try.f27.body with | some c => c | none => .skip
noncomputable def fact_Any_res : List ResultVar := Try.f27.results.toList
noncomputable def fact_Any_con (N : Nat) : Con := ⟨.unit, Y2, fun x => fact_Any N⟩
noncomputable def fact_Any_cs (N : Nat) : List (Nat × Con) := [(57, known_Any_con N), (58, span_Any_con N)]
noncomputable def fact_Any_ls (N : Nat) : List (Nat × LoopC (Int × (Bool × Int) × (Int × Int) × Int)) := []
noncomputable def fact_Any_fun (N : Nat) : Fun := ⟨[], fact_Any_tb, fact_Any_H, fact_Any_cs N, Y2, (fact_Any_con N).F, fact_Any_code, fact_Any_res, fact_Any_ls N⟩
theorem fact_Any_run (N : Nat) (x : (tupTy []).den) : (fact_Any_fun N).run (inSt [] x) = (fact_Any_con N).F x := by kernel_rfl
theorem fact_Any_calls (N : Nat) : CallsOk Try.prog ids (phi Try.prog ids) (fact_Any_cs N) fact_Any_tb := fun k sg con h1 h2 => by
  rcases get_consE h2 with ⟨rfl, rfl⟩ | h2
  · obtain rfl := Option.some.inj (h1.symm.trans (show get fact_Any_tb.sigs 57 = some known_Any_sig from by kernel_rfl)); exact known_Any_ok N
  rcases get_consE h2 with ⟨rfl, rfl⟩ | h2
  · obtain rfl := Option.some.inj (h1.symm.trans (show get fact_Any_tb.sigs 58 = some span_Any_sig from by kernel_rfl)); exact span_Any_ok N
  exact (get_nilE h2).elim
theorem fact_Any_loops (N : Nat) : LoopsL (ρ := (fact_Any_fun N).B.den) (fact_Any_fun N).cs (fact_Any_fun N).ls (fact_Any_fun N).tb (fact_Any_fun N).H (fact_Any_fun N).fin (fact_Any_fun N).B (fact_Any_fun N).code := fun k lc h => by
  exact (get_nilE h).elim
theorem fact_Any_ok (N : Nat) : FnOk Try.prog ids (phi Try.prog ids) 27 fact_Any_sig (fact_Any_con N) :=
  fnOk2 (q := fact_Any_fun N) mix Try.func27 (by kernel_rfl) (by kernel_rfl) (by kernel_rfl) (by kernel_rfl) (by kernel_rfl) (by kernel_rfl) (by kernel_rfl) (tt_ok _ rfl) (fnsOk_of (by kernel_rfl)) (fact_Any_calls N) (fact_Any_loops N) (fact_Any_run N)
noncomputable def sign_Of_tb : Tabs := ⟨TT, [], []⟩
noncomputable def sign_Of_H : Hints := ⟨[], [], [], ⟨⟨[0], [], [], []⟩, ⟨[(0, (.lf (.int .i64)))], [], []⟩⟩⟩
noncomputable def sign_Of_sig : Sig := ⟨⟨[(0, (.lf (.int .i64)))], [], []⟩, ⟨[(0, (.lf (.int .i64)))], [], []⟩, false⟩
noncomputable def sign_Of_code : Code := match Try.f59.body with | some c => c | none => .skip
noncomputable def sign_Of_res : List ResultVar := Try.f59.results.toList
noncomputable def sign_Of_con (N : Nat) : Con := ⟨(.int .i64), (.int .i64), fun x => sign_Of N x⟩
noncomputable def sign_Of_cs (N : Nat) : List (Nat × Con) := []
noncomputable def sign_Of_ls (N : Nat) : List (Nat × LoopC (Int)) := []
noncomputable def sign_Of_fun (N : Nat) : Fun := ⟨[(.int .i64)], sign_Of_tb, sign_Of_H, sign_Of_cs N, (.int .i64), (sign_Of_con N).F, sign_Of_code, sign_Of_res, sign_Of_ls N⟩
theorem sign_Of_run (N : Nat) (x : (tupTy [(.int .i64)]).den) : (sign_Of_fun N).run (inSt [(.int .i64)] x) = (sign_Of_con N).F x := by kernel_rfl
theorem sign_Of_calls (N : Nat) : CallsOk Try.prog ids (phi Try.prog ids) (sign_Of_cs N) sign_Of_tb := fun k sg con h1 h2 => by
  exact (get_nilE h2).elim
theorem sign_Of_loops (N : Nat) : LoopsL (ρ := (sign_Of_fun N).B.den) (sign_Of_fun N).cs (sign_Of_fun N).ls (sign_Of_fun N).tb (sign_Of_fun N).H (sign_Of_fun N).fin (sign_Of_fun N).B (sign_Of_fun N).code := fun k lc h => by
  exact (get_nilE h).elim
theorem sign_Of_ok (N : Nat) : FnOk Try.prog ids (phi Try.prog ids) 59 sign_Of_sig (sign_Of_con N) :=
  fnOk2 (q := sign_Of_fun N) mix Try.func59 (by kernel_rfl) (by kernel_rfl) (by kernel_rfl) (by kernel_rfl) (by kernel_rfl) (by kernel_rfl) (by kernel_rfl) (tt_ok _ rfl) (fnsOk_of (by kernel_rfl)) (sign_Of_calls N) (sign_Of_loops N) (sign_Of_run N)
noncomputable def known_Of_tb : Tabs := ⟨TT, [], []⟩
noncomputable def known_Of_H : Hints := ⟨[], [], [], ⟨⟨[0], [], [], []⟩, ⟨[(0, (.lf Y0))], [], []⟩⟩⟩
noncomputable def known_Of_sig : Sig := ⟨⟨[(0, (.lf (.int .i64)))], [], []⟩, ⟨[(0, (.lf Y0))], [], []⟩, false⟩
noncomputable def known_Of_code : Code := match Try.f60.body with | some c => c | none => .skip
noncomputable def known_Of_res : List ResultVar := Try.f60.results.toList
noncomputable def known_Of_con (N : Nat) : Con := ⟨(.int .i64), Y0, fun x => known_Of N x⟩
noncomputable def known_Of_cs (N : Nat) : List (Nat × Con) := []
noncomputable def known_Of_ls (N : Nat) : List (Nat × LoopC (Bool × Int)) := []
noncomputable def known_Of_fun (N : Nat) : Fun := ⟨[(.int .i64)], known_Of_tb, known_Of_H, known_Of_cs N, Y0, (known_Of_con N).F, known_Of_code, known_Of_res, known_Of_ls N⟩
theorem known_Of_run (N : Nat) (x : (tupTy [(.int .i64)]).den) : (known_Of_fun N).run (inSt [(.int .i64)] x) = (known_Of_con N).F x := by kernel_rfl
theorem known_Of_calls (N : Nat) : CallsOk Try.prog ids (phi Try.prog ids) (known_Of_cs N) known_Of_tb := fun k sg con h1 h2 => by
  exact (get_nilE h2).elim
theorem known_Of_loops (N : Nat) : LoopsL (ρ := (known_Of_fun N).B.den) (known_Of_fun N).cs (known_Of_fun N).ls (known_Of_fun N).tb (known_Of_fun N).H (known_Of_fun N).fin (known_Of_fun N).B (known_Of_fun N).code := fun k lc h => by
  exact (get_nilE h).elim
theorem known_Of_ok (N : Nat) : FnOk Try.prog ids (phi Try.prog ids) 60 known_Of_sig (known_Of_con N) :=
  fnOk2 (q := known_Of_fun N) mix Try.func60 (by kernel_rfl) (by kernel_rfl) (by kernel_rfl) (by kernel_rfl) (by kernel_rfl) (by kernel_rfl) (by kernel_rfl) (tt_ok _ rfl) (fnsOk_of (by kernel_rfl)) (known_Of_calls N) (known_Of_loops N) (known_Of_run N)
noncomputable def span_Of_tb : Tabs := ⟨TT, [], []⟩
noncomputable def span_Of_H : Hints := ⟨[], [], [], ⟨⟨[0], [], [], []⟩, ⟨[(0, (.lf Y1))], [], []⟩⟩⟩
noncomputable def span_Of_sig : Sig := ⟨⟨[(0, (.lf (.int .i64)))], [], []⟩, ⟨[(0, (.lf Y1))], [], []⟩, false⟩
noncomputable def span_Of_code : Code := match Try.f61.body with | some c => c | none => .skip
noncomputable def span_Of_res : List ResultVar := Try.f61.results.toList
noncomputable def span_Of_con (N : Nat) : Con := ⟨(.int .i64), Y1, fun x => span_Of N x⟩
noncomputable def span_Of_cs (N : Nat) : List (Nat × Con) := []
noncomputable def span_Of_ls (N : Nat) : List (Nat × LoopC (Int × Int)) := []
noncomputable def span_Of_fun (N : Nat) : Fun := ⟨[(.int .i64)], span_Of_tb, span_Of_H, span_Of_cs N, Y1, (span_Of_con N).F, span_Of_code, span_Of_res, span_Of_ls N⟩
theorem span_Of_run (N : Nat) (x : (tupTy [(.int .i64)]).den) : (span_Of_fun N).run (inSt [(.int .i64)] x) = (span_Of_con N).F x := by kernel_rfl
theorem span_Of_calls (N : Nat) : CallsOk Try.prog ids (phi Try.prog ids) (span_Of_cs N) span_Of_tb := fun k sg con h1 h2 => by
  exact (get_nilE h2).elim
theorem span_Of_loops (N : Nat) : LoopsL (ρ := (span_Of_fun N).B.den) (span_Of_fun N).cs (span_Of_fun N).ls (span_Of_fun N).tb (span_Of_fun N).H (span_Of_fun N).fin (span_Of_fun N).B (span_Of_fun N).code := fun k lc h => by
  exact (get_nilE h).elim
theorem span_Of_ok (N : Nat) : FnOk Try.prog ids (phi Try.prog ids) 61 span_Of_sig (span_Of_con N) :=
  fnOk2 (q := span_Of_fun N) mix Try.func61 (by kernel_rfl) (by kernel_rfl) (by kernel_rfl) (by kernel_rfl) (by kernel_rfl) (by kernel_rfl) (by kernel_rfl) (tt_ok _ rfl) (fnsOk_of (by kernel_rfl)) (span_Of_calls N) (span_Of_loops N) (span_Of_run N)
noncomputable def parity_Of_tb : Tabs := ⟨TT, [], []⟩
noncomputable def parity_Of_H : Hints := ⟨[], [], [], ⟨⟨[0], [], [], []⟩, ⟨[(0, (.lf (.int .i64)))], [], []⟩⟩⟩
noncomputable def parity_Of_sig : Sig := ⟨⟨[(0, (.lf (.int .i64)))], [], []⟩, ⟨[(0, (.lf (.int .i64)))], [], []⟩, false⟩
noncomputable def parity_Of_code : Code := match Try.f62.body with | some c => c | none => .skip
noncomputable def parity_Of_res : List ResultVar := Try.f62.results.toList
noncomputable def parity_Of_con (N : Nat) : Con := ⟨(.int .i64), (.int .i64), fun x => parity_Of N x⟩
noncomputable def parity_Of_cs (N : Nat) : List (Nat × Con) := []
noncomputable def parity_Of_ls (N : Nat) : List (Nat × LoopC (Int)) := []
noncomputable def parity_Of_fun (N : Nat) : Fun := ⟨[(.int .i64)], parity_Of_tb, parity_Of_H, parity_Of_cs N, (.int .i64), (parity_Of_con N).F, parity_Of_code, parity_Of_res, parity_Of_ls N⟩
theorem parity_Of_run (N : Nat) (x : (tupTy [(.int .i64)]).den) : (parity_Of_fun N).run (inSt [(.int .i64)] x) = (parity_Of_con N).F x := by kernel_rfl
theorem parity_Of_calls (N : Nat) : CallsOk Try.prog ids (phi Try.prog ids) (parity_Of_cs N) parity_Of_tb := fun k sg con h1 h2 => by
  exact (get_nilE h2).elim
theorem parity_Of_loops (N : Nat) : LoopsL (ρ := (parity_Of_fun N).B.den) (parity_Of_fun N).cs (parity_Of_fun N).ls (parity_Of_fun N).tb (parity_Of_fun N).H (parity_Of_fun N).fin (parity_Of_fun N).B (parity_Of_fun N).code := fun k lc h => by
  exact (get_nilE h).elim
theorem parity_Of_ok (N : Nat) : FnOk Try.prog ids (phi Try.prog ids) 62 parity_Of_sig (parity_Of_con N) :=
  fnOk2 (q := parity_Of_fun N) mix Try.func62 (by kernel_rfl) (by kernel_rfl) (by kernel_rfl) (by kernel_rfl) (by kernel_rfl) (by kernel_rfl) (by kernel_rfl) (tt_ok _ rfl) (fnsOk_of (by kernel_rfl)) (parity_Of_calls N) (parity_Of_loops N) (parity_Of_run N)
noncomputable def fact_Of_tb : Tabs := ⟨TT, [(59, sign_Of_sig), (60, known_Of_sig), (61, span_Of_sig), (62, parity_Of_sig)], []⟩
noncomputable def fact_Of_H : Hints := ⟨[], [], [], ⟨⟨[0], [], [], []⟩, ⟨[(0, (.lf Y2))], [], []⟩⟩⟩
noncomputable def fact_Of_sig : Sig := ⟨⟨[(0, (.lf (.int .i64)))], [], []⟩, ⟨[(0, (.lf Y2))], [], []⟩, false⟩
noncomputable def fact_Of_code : Code := match Try.f28.body with | some c => c | none => .skip
noncomputable def fact_Of_res : List ResultVar := Try.f28.results.toList
noncomputable def fact_Of_con (N : Nat) : Con := ⟨(.int .i64), Y2, fun x => fact_Of N x⟩
noncomputable def fact_Of_cs (N : Nat) : List (Nat × Con) := [(59, sign_Of_con N), (60, known_Of_con N), (61, span_Of_con N), (62, parity_Of_con N)]
noncomputable def fact_Of_ls (N : Nat) : List (Nat × LoopC (Int × (Bool × Int) × (Int × Int) × Int)) := []
noncomputable def fact_Of_fun (N : Nat) : Fun := ⟨[(.int .i64)], fact_Of_tb, fact_Of_H, fact_Of_cs N, Y2, (fact_Of_con N).F, fact_Of_code, fact_Of_res, fact_Of_ls N⟩
theorem fact_Of_run (N : Nat) (x : (tupTy [(.int .i64)]).den) : (fact_Of_fun N).run (inSt [(.int .i64)] x) = (fact_Of_con N).F x := by kernel_rfl
theorem fact_Of_calls (N : Nat) : CallsOk Try.prog ids (phi Try.prog ids) (fact_Of_cs N) fact_Of_tb := fun k sg con h1 h2 => by
  rcases get_consE h2 with ⟨rfl, rfl⟩ | h2
  · obtain rfl := Option.some.inj (h1.symm.trans (show get fact_Of_tb.sigs 59 = some sign_Of_sig from by kernel_rfl)); exact sign_Of_ok N
  rcases get_consE h2 with ⟨rfl, rfl⟩ | h2
  · obtain rfl := Option.some.inj (h1.symm.trans (show get fact_Of_tb.sigs 60 = some known_Of_sig from by kernel_rfl)); exact known_Of_ok N
  rcases get_consE h2 with ⟨rfl, rfl⟩ | h2
  · obtain rfl := Option.some.inj (h1.symm.trans (show get fact_Of_tb.sigs 61 = some span_Of_sig from by kernel_rfl)); exact span_Of_ok N
  rcases get_consE h2 with ⟨rfl, rfl⟩ | h2
  · obtain rfl := Option.some.inj (h1.symm.trans (show get fact_Of_tb.sigs 62 = some parity_Of_sig from by kernel_rfl)); exact parity_Of_ok N
  exact (get_nilE h2).elim
theorem fact_Of_loops (N : Nat) : LoopsL (ρ := (fact_Of_fun N).B.den) (fact_Of_fun N).cs (fact_Of_fun N).ls (fact_Of_fun N).tb (fact_Of_fun N).H (fact_Of_fun N).fin (fact_Of_fun N).B (fact_Of_fun N).code := fun k lc h => by
  exact (get_nilE h).elim
theorem fact_Of_ok (N : Nat) : FnOk Try.prog ids (phi Try.prog ids) 28 fact_Of_sig (fact_Of_con N) :=
  fnOk2 (q := fact_Of_fun N) mix Try.func28 (by kernel_rfl) (by kernel_rfl) (by kernel_rfl) (by kernel_rfl) (by kernel_rfl) (by kernel_rfl) (by kernel_rfl) (tt_ok _ rfl) (fnsOk_of (by kernel_rfl)) (fact_Of_calls N) (fact_Of_loops N) (fact_Of_run N)
noncomputable def state_Begin_tb : Tabs := ⟨TT, [(28, fact_Of_sig)], [28, 35, 36]⟩
noncomputable def state_Begin_H : Hints := ⟨[(20, ⟨⟨[7, 2, 1, 6, 12, 13, 8, 9], [], [], []⟩, ⟨[(1, (.lf (.sl 47 Y2))), (2, (.lf (.int .i64))), (6, (.pt ⟨1006, 0, 0, 0, []⟩)), (7, (.pt ⟨1007, 0, 0, 0, []⟩)), (8, (.lf (.int .i64))), (9, (.pt ⟨1009, 0, 0, 0, []⟩)), (12, (.lf (.int .i64))), (13, (.lf (.int .i64)))], [], [(1006, ⟨0, some 32, [⟨0, .o 0 .bool⟩, ⟨0, .o 1 (.sl 47 Y2)⟩, ⟨0, .o 2 (.sl 27 (.sl 3 (.int .i64)))⟩]⟩), (1007, ⟨0, some 32, [⟨0, .o 0 .bool⟩, ⟨0, .o 1 (.sl 47 Y2)⟩, ⟨0, .o 1 (.sl 27 (.sl 3 (.int .i64)))⟩]⟩), (1009, ⟨0, some 47, [⟨0, .o 0 (.int .i64)⟩, ⟨0, .o 0 .bool⟩, ⟨0, .o 0 (.int .i64)⟩, ⟨0, .o 0 (.int .i64)⟩, ⟨0, .o 0 (.int .i64)⟩, ⟨0, .o 0 (.int .i64)⟩]⟩)]⟩⟩)], [], [(4, ⟨⟨[13, 7, 2, 1, 6, 12], [], [], [(1007, 2, 1)]⟩, ⟨[(1, (.lf (.sl 47 Y2))), (2, (.lf (.int .i64))), (6, (.pt ⟨1006, 0, 0, 0, []⟩)), (7, (.pt ⟨1007, 0, 0, 0, []⟩)), (12, (.lf (.int .i64))), (13, (.lf (.int .i64)))], [], [(1006, ⟨0, some 32, [⟨0, .o 0 .bool⟩, ⟨0, .o 1 (.sl 47 Y2)⟩, ⟨0, .o 2 (.sl 27 (.sl 3 (.int .i64)))⟩]⟩), (1007, ⟨0, some 32, [⟨0, .o 0 .bool⟩, ⟨0, .o 1 (.sl 47 Y2)⟩, ⟨0, .o 1 (.sl 27 (.sl 3 (.int .i64)))⟩]⟩)]⟩, [(0, ⟨⟨[6, 7], [], [], []⟩, ⟨[(6, (.pt ⟨1006, 0, 0, 0, []⟩)), (7, (.pt ⟨1007, 0, 0, 0, []⟩))], [], [(1006, ⟨0, some 32, [⟨0, .o 0 .bool⟩, ⟨0, .o 1 (.sl 47 Y2)⟩, ⟨0, .o 2 (.sl 27 (.sl 3 (.int .i64)))⟩]⟩), (1007, ⟨0, some 32, [⟨0, .o 0 .bool⟩, ⟨0, .o 1 (.sl 47 Y2)⟩, ⟨0, .o 1 (.sl 27 (.sl 3 (.int .i64)))⟩]⟩)]⟩⟩)]⟩)], ⟨⟨[0], [], [], []⟩, ⟨[(0, (.lf Y4))], [], []⟩⟩⟩
noncomputable def state_Begin_sig : Sig := ⟨⟨[(0, (.lf (.int .i64))), (1, (.lf (.sl 47 Y2))), (2, (.lf (.int .i64)))], [], []⟩, ⟨[(0, (.lf Y4))], [], []⟩, false⟩
noncomputable def state_Begin_code : Code := match Try.f16.body with | some c => c | none => .skip
noncomputable def state_Begin_res : List ResultVar := Try.f16.results.toList
noncomputable def state_Begin_con (N : Nat) : Con := ⟨(.pair (.int .i64) (.pair (.sl 47 Y2) (.int .i64))), Y4, fun x => state_Begin N x.1 x.2.1 x.2.2⟩
noncomputable def state_Begin_cs (N : Nat) : List (Nat × Con) := [(28, fact_Of_con N)]
noncomputable def state_Begin_G4 (N n : Nat) (x : (tupTy [(.sl 47 Y2), (.int .i64), (.int .i64), (.int .i64), .bool, (.sl 47 Y2), (.sl 27 (.sl 3 (.int .i64))), .bool, (.sl 47 Y2), (.sl 27 (.sl 3 (.int .i64)))]).den) (ks : List (L → Option (Bool × (List (Int × (Bool × Int) × (Int × Int) × Int)) × List (List Int)))) : Option (Bool × (List (Int × (Bool × Int) × (Int × Int) × Int)) × List (List Int)) := state_Begin_l4 N (fun y => kget ks 0 ⟨(.pair .bool (.pair (.sl 47 Y2) (.pair (.sl 27 (.sl 3 (.int .i64))) (.pair .bool (.pair (.sl 47 Y2) (.sl 27 (.sl 3 (.int .i64)))))))), y⟩) n x.1 x.2.1 x.2.2.1 x.2.2.2.1 x.2.2.2.2.1 x.2.2.2.2.2.1 x.2.2.2.2.2.2.1 x.2.2.2.2.2.2.2.1 x.2.2.2.2.2.2.2.2.1 x.2.2.2.2.2.2.2.2.2
noncomputable def state_Begin_lh4 : LH := lhAt state_Begin_H 4
noncomputable def state_Begin_c4 : Code := codeAt 4 state_Begin_code
noncomputable def state_Begin_ls (N : Nat) : List (Nat × LoopC (Bool × (List (Int × (Bool × Int) × (Int × Int) × Int)) × List (List Int))) := [(4, ⟨tupTy [(.sl 47 Y2), (.int .i64), (.int .i64), (.int .i64), .bool, (.sl 47 Y2), (.sl 27 (.sl 3 (.int .i64))), .bool, (.sl 47 Y2), (.sl 27 (.sl 3 (.int .i64)))], lenK 1 (state_Begin_G4 N N)⟩)]
noncomputable def state_Begin_fun (N : Nat) : Fun := ⟨[(.int .i64), (.sl 47 Y2), (.int .i64)], state_Begin_tb, state_Begin_H, state_Begin_cs N, Y4, (state_Begin_con N).F, state_Begin_code, state_Begin_res, state_Begin_ls N⟩
theorem state_Begin_run (N : Nat) (x : (tupTy [(.int .i64), (.sl 47 Y2), (.int .i64)]).den) : (state_Begin_fun N).run (inSt [(.int .i64), (.sl 47 Y2), (.int .i64)] x) = (state_Begin_con N).F x := by kernel_rfl
theorem state_Begin_o4 (N : Nat) : RoundOk (ρ := (state_Begin_fun N).B.den) (state_Begin_fun N).cs (state_Begin_fun N).ls (state_Begin_fun N).tb (state_Begin_fun N).H (state_Begin_fun N).fin (state_Begin_fun N).B state_Begin_lh4 state_Begin_c4 [(.sl 47 Y2), (.int .i64), (.int .i64), (.int .i64), .bool, (.sl 47 Y2), (.sl 27 (.sl 3 (.int .i64))), .bool, (.sl 47 Y2), (.sl 27 (.sl 3 (.int .i64)))] [(.pair .bool (.pair (.sl 47 Y2) (.pair (.sl 27 (.sl 3 (.int .i64))) (.pair .bool (.pair (.sl 47 Y2) (.sl 27 (.sl 3 (.int .i64))))))))] (state_Begin_G4 N) :=
  ⟨by kernel_rfl, fun _ _ => by kernel_rfl, fun _ _ _ => by kernel_rfl⟩
theorem state_Begin_calls (N : Nat) : CallsOk Try.prog ids (phi Try.prog ids) (state_Begin_cs N) state_Begin_tb := fun k sg con h1 h2 => by
  rcases get_consE h2 with ⟨rfl, rfl⟩ | h2
  · obtain rfl := Option.some.inj (h1.symm.trans (show get state_Begin_tb.sigs 28 = some fact_Of_sig from by kernel_rfl)); exact fact_Of_ok N
  exact (get_nilE h2).elim
theorem state_Begin_loops (N : Nat) : LoopsL (ρ := (state_Begin_fun N).B.den) (state_Begin_fun N).cs (state_Begin_fun N).ls (state_Begin_fun N).tb (state_Begin_fun N).H (state_Begin_fun N).fin (state_Begin_fun N).B (state_Begin_fun N).code := fun k lc h => by
  rcases get_consE h with ⟨rfl, rfl⟩ | h
  · exact ⟨_, loopOk (state_Begin_o4 N)⟩
  exact (get_nilE h).elim
theorem state_Begin_ok (N : Nat) : FnOk Try.prog ids (phi Try.prog ids) 16 state_Begin_sig (state_Begin_con N) :=
  fnOk2 (q := state_Begin_fun N) mix Try.func16 (by kernel_rfl) (by kernel_rfl) (by kernel_rfl) (by kernel_rfl) (by kernel_rfl) (by kernel_rfl) (by kernel_rfl) (tt_ok _ rfl) (fnsOk_of (by kernel_rfl)) (state_Begin_calls N) (state_Begin_loops N) (state_Begin_run N)
noncomputable def state_None_tb : Tabs := ⟨TT, [], []⟩
noncomputable def state_None_H : Hints := ⟨[], [], [], ⟨⟨[0], [], [], []⟩, ⟨[(0, (.lf Y4))], [], []⟩⟩⟩
noncomputable def state_None_sig : Sig := ⟨⟨[], [], []⟩, ⟨[(0, (.lf Y4))], [], []⟩, false⟩
noncomputable def state_None_code : Code := match Try.f23.body with | some c => c | none => .skip
noncomputable def state_None_res : List ResultVar := Try.f23.results.toList
noncomputable def state_None_con (N : Nat) : Con := ⟨.unit, Y4, fun x => state_None N⟩
noncomputable def state_None_cs (N : Nat) : List (Nat × Con) := []
noncomputable def state_None_ls (N : Nat) : List (Nat × LoopC (Bool × (List (Int × (Bool × Int) × (Int × Int) × Int)) × List (List Int))) := []
noncomputable def state_None_fun (N : Nat) : Fun := ⟨[], state_None_tb, state_None_H, state_None_cs N, Y4, (state_None_con N).F, state_None_code, state_None_res, state_None_ls N⟩
theorem state_None_run (N : Nat) (x : (tupTy []).den) : (state_None_fun N).run (inSt [] x) = (state_None_con N).F x := by kernel_rfl
theorem state_None_calls (N : Nat) : CallsOk Try.prog ids (phi Try.prog ids) (state_None_cs N) state_None_tb := fun k sg con h1 h2 => by
  exact (get_nilE h2).elim
theorem state_None_loops (N : Nat) : LoopsL (ρ := (state_None_fun N).B.den) (state_None_fun N).cs (state_None_fun N).ls (state_None_fun N).tb (state_None_fun N).H (state_None_fun N).fin (state_None_fun N).B (state_None_fun N).code := fun k lc h => by
  exact (get_nilE h).elim
theorem state_None_ok (N : Nat) : FnOk Try.prog ids (phi Try.prog ids) 23 state_None_sig (state_None_con N) :=
  fnOk2 (q := state_None_fun N) mix Try.func23 (by kernel_rfl) (by kernel_rfl) (by kernel_rfl) (by kernel_rfl) (by kernel_rfl) (by kernel_rfl) (by kernel_rfl) (tt_ok _ rfl) (fnsOk_of (by kernel_rfl)) (state_None_calls N) (state_None_loops N) (state_None_run N)
noncomputable def bits_Right_tb : Tabs := ⟨TT, [], []⟩
noncomputable def bits_Right_H : Hints := ⟨[], [], [(6, ⟨⟨[16, 0, 5, 14, 15], [], [], []⟩, ⟨[(0, (.lf (.int .i64))), (5, (.lf (.int .i64))), (14, (.lf (.sl 3 (.int .i64)))), (15, (.lf (.int .i64))), (16, (.lf (.int .i64)))], [], []⟩, [(0, ⟨⟨[], [], [], []⟩, ⟨[], [], []⟩⟩)]⟩)], ⟨⟨[0], [], [], []⟩, ⟨[(0, (.lf .bool))], [], []⟩⟩⟩
noncomputable def bits_Right_sig : Sig := ⟨⟨[(0, (.lf (.int .i64))), (1, (.lf (.sl 3 (.int .i64))))], [], []⟩, ⟨[(0, (.lf .bool))], [], []⟩, false⟩
noncomputable def bits_Right_code : Code := match Try.f29.body with | some c => c | none => .skip
noncomputable def bits_Right_res : List ResultVar := Try.f29.results.toList
noncomputable def bits_Right_con (N : Nat) : Con := ⟨(.pair (.int .i64) (.sl 3 (.int .i64))), .bool, fun x => bits_Right N x.1 x.2⟩
noncomputable def bits_Right_cs (N : Nat) : List (Nat × Con) := []
noncomputable def bits_Right_G6 (N n : Nat) (x : (tupTy [(.int .i64), (.int .i64), (.sl 3 (.int .i64)), (.int .i64), (.int .i64)]).den) (ks : List (L → Option (Bool))) : Option (Bool) := bits_Right_l6 N (fun y => kget ks 0 ⟨.unit, y⟩) (fun y => kget ks 1 ⟨.bool, y⟩) n x.1 x.2.1 x.2.2.1 x.2.2.2.1 x.2.2.2.2
noncomputable def bits_Right_lh6 : LH := lhAt bits_Right_H 6
noncomputable def bits_Right_c6 : Code := codeAt 6 bits_Right_code
noncomputable def bits_Right_ls (N : Nat) : List (Nat × LoopC (Bool)) := [(6, ⟨tupTy [(.int .i64), (.int .i64), (.sl 3 (.int .i64)), (.int .i64), (.int .i64)], lenK 2 (bits_Right_G6 N N)⟩)]
noncomputable def bits_Right_fun (N : Nat) : Fun := ⟨[(.int .i64), (.sl 3 (.int .i64))], bits_Right_tb, bits_Right_H, bits_Right_cs N, .bool, (bits_Right_con N).F, bits_Right_code, bits_Right_res, bits_Right_ls N⟩
theorem bits_Right_run (N : Nat) (x : (tupTy [(.int .i64), (.sl 3 (.int .i64))]).den) : (bits_Right_fun N).run (inSt [(.int .i64), (.sl 3 (.int .i64))] x) = (bits_Right_con N).F x := by kernel_rfl
theorem bits_Right_o6 (N : Nat) : RoundOk (ρ := (bits_Right_fun N).B.den) (bits_Right_fun N).cs (bits_Right_fun N).ls (bits_Right_fun N).tb (bits_Right_fun N).H (bits_Right_fun N).fin (bits_Right_fun N).B bits_Right_lh6 bits_Right_c6 [(.int .i64), (.int .i64), (.sl 3 (.int .i64)), (.int .i64), (.int .i64)] [.unit, .bool] (bits_Right_G6 N) :=
  ⟨by kernel_rfl, fun _ _ => by kernel_rfl, fun _ _ _ => by kernel_rfl⟩
theorem bits_Right_calls (N : Nat) : CallsOk Try.prog ids (phi Try.prog ids) (bits_Right_cs N) bits_Right_tb := fun k sg con h1 h2 => by
  exact (get_nilE h2).elim
theorem bits_Right_loops (N : Nat) : LoopsL (ρ := (bits_Right_fun N).B.den) (bits_Right_fun N).cs (bits_Right_fun N).ls (bits_Right_fun N).tb (bits_Right_fun N).H (bits_Right_fun N).fin (bits_Right_fun N).B (bits_Right_fun N).code := fun k lc h => by
  rcases get_consE h with ⟨rfl, rfl⟩ | h
  · exact ⟨_, loopOk (bits_Right_o6 N)⟩
  exact (get_nilE h).elim
theorem bits_Right_ok (N : Nat) : FnOk Try.prog ids (phi Try.prog ids) 29 bits_Right_sig (bits_Right_con N) :=
  fnOk2 (q := bits_Right_fun N) mix Try.func29 (by kernel_rfl) (by kernel_rfl) (by kernel_rfl) (by kernel_rfl) (by kernel_rfl) (by kernel_rfl) (by kernel_rfl) (tt_ok _ rfl) (fnsOk_of (by kernel_rfl)) (bits_Right_calls N) (bits_Right_loops N) (bits_Right_run N)
noncomputable def slices_IndexFunc_fact_Value_fact_Value_tb : Tabs := ⟨TT, [], []⟩
noncomputable def slices_IndexFunc_fact_Value_fact_Value_H : Hints := ⟨[], [], [(3, ⟨⟨[8, 0, 1, 7], [], [], []⟩, ⟨[(0, (.lf (.sl 47 Y2))), (1, (.lf (.fn Y2 .bool))), (7, (.lf (.int .i64))), (8, (.lf (.int .i64)))], [], []⟩, [(0, ⟨⟨[], [], [], []⟩, ⟨[], [], []⟩⟩)]⟩)], ⟨⟨[0], [], [], []⟩, ⟨[(0, (.lf (.int .i64)))], [], []⟩⟩⟩
noncomputable def slices_IndexFunc_fact_Value_fact_Value_sig : Sig := ⟨⟨[(0, (.lf (.sl 47 Y2))), (1, (.lf (.fn Y2 .bool)))], [], []⟩, ⟨[(0, (.lf (.int .i64)))], [], []⟩, false⟩
noncomputable def slices_IndexFunc_fact_Value_fact_Value_code : Code := match Try.f63.body with | some c => c | none => .skip
noncomputable def slices_IndexFunc_fact_Value_fact_Value_res : List ResultVar := Try.f63.results.toList
noncomputable def slices_IndexFunc_fact_Value_fact_Value_con (N : Nat) : Con := ⟨(.pair (.sl 47 Y2) (.fn Y2 .bool)), (.int .i64), fun x => slices_IndexFunc_fact_Value_fact_Value N x.1 x.2⟩
noncomputable def slices_IndexFunc_fact_Value_fact_Value_cs (N : Nat) : List (Nat × Con) := []
noncomputable def slices_IndexFunc_fact_Value_fact_Value_G3 (N n : Nat) (x : (tupTy [(.sl 47 Y2), (.fn Y2 .bool), (.int .i64), (.int .i64)]).den) (ks : List (L → Option (Int))) : Option (Int) := slices_IndexFunc_fact_Value_fact_Value_l3 N (fun y => kget ks 0 ⟨.unit, y⟩) (fun y => kget ks 1 ⟨(.int .i64), y⟩) n x.1 x.2.1 x.2.2.1 x.2.2.2
noncomputable def slices_IndexFunc_fact_Value_fact_Value_lh3 : LH := lhAt slices_IndexFunc_fact_Value_fact_Value_H 3
noncomputable def slices_IndexFunc_fact_Value_fact_Value_c3 : Code := codeAt 3 slices_IndexFunc_fact_Value_fact_Value_code
noncomputable def slices_IndexFunc_fact_Value_fact_Value_ls (N : Nat) : List (Nat × LoopC (Int)) := [(3, ⟨tupTy [(.sl 47 Y2), (.fn Y2 .bool), (.int .i64), (.int .i64)], lenK 2 (slices_IndexFunc_fact_Value_fact_Value_G3 N N)⟩)]
noncomputable def slices_IndexFunc_fact_Value_fact_Value_fun (N : Nat) : Fun := ⟨[(.sl 47 Y2), (.fn Y2 .bool)], slices_IndexFunc_fact_Value_fact_Value_tb, slices_IndexFunc_fact_Value_fact_Value_H, slices_IndexFunc_fact_Value_fact_Value_cs N, (.int .i64), (slices_IndexFunc_fact_Value_fact_Value_con N).F, slices_IndexFunc_fact_Value_fact_Value_code, slices_IndexFunc_fact_Value_fact_Value_res, slices_IndexFunc_fact_Value_fact_Value_ls N⟩
theorem slices_IndexFunc_fact_Value_fact_Value_run (N : Nat) (x : (tupTy [(.sl 47 Y2), (.fn Y2 .bool)]).den) : (slices_IndexFunc_fact_Value_fact_Value_fun N).run (inSt [(.sl 47 Y2), (.fn Y2 .bool)] x) = (slices_IndexFunc_fact_Value_fact_Value_con N).F x := by kernel_rfl
theorem slices_IndexFunc_fact_Value_fact_Value_o3 (N : Nat) : RoundOk (ρ := (slices_IndexFunc_fact_Value_fact_Value_fun N).B.den) (slices_IndexFunc_fact_Value_fact_Value_fun N).cs (slices_IndexFunc_fact_Value_fact_Value_fun N).ls (slices_IndexFunc_fact_Value_fact_Value_fun N).tb (slices_IndexFunc_fact_Value_fact_Value_fun N).H (slices_IndexFunc_fact_Value_fact_Value_fun N).fin (slices_IndexFunc_fact_Value_fact_Value_fun N).B slices_IndexFunc_fact_Value_fact_Value_lh3 slices_IndexFunc_fact_Value_fact_Value_c3 [(.sl 47 Y2), (.fn Y2 .bool), (.int .i64), (.int .i64)] [.unit, (.int .i64)] (slices_IndexFunc_fact_Value_fact_Value_G3 N) :=
  ⟨by kernel_rfl, fun _ _ => by kernel_rfl, fun _ _ _ => by kernel_rfl⟩
theorem slices_IndexFunc_fact_Value_fact_Value_calls (N : Nat) : CallsOk Try.prog ids (phi Try.prog ids) (slices_IndexFunc_fact_Value_fact_Value_cs N) slices_IndexFunc_fact_Value_fact_Value_tb := fun k sg con h1 h2 => by
  exact (get_nilE h2).elim
theorem slices_IndexFunc_fact_Value_fact_Value_loops (N : Nat) : LoopsL (ρ := (slices_IndexFunc_fact_Value_fact_Value_fun N).B.den) (slices_IndexFunc_fact_Value_fact_Value_fun N).cs (slices_IndexFunc_fact_Value_fact_Value_fun N).ls (slices_IndexFunc_fact_Value_fact_Value_fun N).tb (slices_IndexFunc_fact_Value_fact_Value_fun N).H (slices_IndexFunc_fact_Value_fact_Value_fun N).fin (slices_IndexFunc_fact_Value_fact_Value_fun N).B (slices_IndexFunc_fact_Value_fact_Value_fun N).code := fun k lc h => by
  rcases get_consE h with ⟨rfl, rfl⟩ | h
  · exact ⟨_, loopOk (slices_IndexFunc_fact_Value_fact_Value_o3 N)⟩
  exact (get_nilE h).elim
theorem slices_IndexFunc_fact_Value_fact_Value_ok (N : Nat) : FnOk Try.prog ids (phi Try.prog ids) 63 slices_IndexFunc_fact_Value_fact_Value_sig (slices_IndexFunc_fact_Value_fact_Value_con N) :=
  fnOk2 (q := slices_IndexFunc_fact_Value_fact_Value_fun N) mix Try.func63 (by kernel_rfl) (by kernel_rfl) (by kernel_rfl) (by kernel_rfl) (by kernel_rfl) (by kernel_rfl) (by kernel_rfl) (tt_ok _ rfl) (fnsOk_of (by kernel_rfl)) (slices_IndexFunc_fact_Value_fact_Value_calls N) (slices_IndexFunc_fact_Value_fact_Value_loops N) (slices_IndexFunc_fact_Value_fact_Value_run N)
noncomputable def slices_ContainsFunc_fact_Value_fact_Value_tb : Tabs := ⟨TT, [(63, slices_IndexFunc_fact_Value_fact_Value_sig)], []⟩
noncomputable def slices_ContainsFunc_fact_Value_fact_Value_H : Hints := ⟨[], [], [], ⟨⟨[0], [], [], []⟩, ⟨[(0, (.lf .bool))], [], []⟩⟩⟩
noncomputable def slices_ContainsFunc_fact_Value_fact_Value_sig : Sig := ⟨⟨[(0, (.lf (.sl 47 Y2))), (1, (.lf (.fn Y2 .bool)))], [], []⟩, ⟨[(0, (.lf .bool))], [], []⟩, false⟩
noncomputable def slices_ContainsFunc_fact_Value_fact_Value_code : Code := match Try.f30.body with | some c => c | none => .skip
noncomputable def slices_ContainsFunc_fact_Value_fact_Value_res : List ResultVar := Try.f30.results.toList
noncomputable def slices_ContainsFunc_fact_Value_fact_Value_con (N : Nat) : Con := ⟨(.pair (.sl 47 Y2) (.fn Y2 .bool)), .bool, fun x => slices_ContainsFunc_fact_Value_fact_Value N x.1 x.2⟩
noncomputable def slices_ContainsFunc_fact_Value_fact_Value_cs (N : Nat) : List (Nat × Con) := [(63, slices_IndexFunc_fact_Value_fact_Value_con N)]
noncomputable def slices_ContainsFunc_fact_Value_fact_Value_ls (N : Nat) : List (Nat × LoopC (Bool)) := []
noncomputable def slices_ContainsFunc_fact_Value_fact_Value_fun (N : Nat) : Fun := ⟨[(.sl 47 Y2), (.fn Y2 .bool)], slices_ContainsFunc_fact_Value_fact_Value_tb, slices_ContainsFunc_fact_Value_fact_Value_H, slices_ContainsFunc_fact_Value_fact_Value_cs N, .bool, (slices_ContainsFunc_fact_Value_fact_Value_con N).F, slices_ContainsFunc_fact_Value_fact_Value_code, slices_ContainsFunc_fact_Value_fact_Value_res, slices_ContainsFunc_fact_Value_fact_Value_ls N⟩
theorem slices_ContainsFunc_fact_Value_fact_Value_run (N : Nat) (x : (tupTy [(.sl 47 Y2), (.fn Y2 .bool)]).den) : (slices_ContainsFunc_fact_Value_fact_Value_fun N).run (inSt [(.sl 47 Y2), (.fn Y2 .bool)] x) = (slices_ContainsFunc_fact_Value_fact_Value_con N).F x := by kernel_rfl
theorem slices_ContainsFunc_fact_Value_fact_Value_calls (N : Nat) : CallsOk Try.prog ids (phi Try.prog ids) (slices_ContainsFunc_fact_Value_fact_Value_cs N) slices_ContainsFunc_fact_Value_fact_Value_tb := fun k sg con h1 h2 => by
  rcases get_consE h2 with ⟨rfl, rfl⟩ | h2
  · obtain rfl := Option.some.inj (h1.symm.trans (show get slices_ContainsFunc_fact_Value_fact_Value_tb.sigs 63 = some slices_IndexFunc_fact_Value_fact_Value_sig from by kernel_rfl)); exact slices_IndexFunc_fact_Value_fact_Value_ok N
  exact (get_nilE h2).elim
theorem slices_ContainsFunc_fact_Value_fact_Value_loops (N : Nat) : LoopsL (ρ := (slices_ContainsFunc_fact_Value_fact_Value_fun N).B.den) (slices_ContainsFunc_fact_Value_fact_Value_fun N).cs (slices_ContainsFunc_fact_Value_fact_Value_fun N).ls (slices_ContainsFunc_fact_Value_fact_Value_fun N).tb (slices_ContainsFunc_fact_Value_fact_Value_fun N).H (slices_ContainsFunc_fact_Value_fact_Value_fun N).fin (slices_ContainsFunc_fact_Value_fact_Value_fun N).B (slices_ContainsFunc_fact_Value_fact_Value_fun N).code := fun k lc h => by
  exact (get_nilE h).elim
theorem slices_ContainsFunc_fact_Value_fact_Value_ok (N : Nat) : FnOk Try.prog ids (phi Try.prog ids) 30 slices_ContainsFunc_fact_Value_fact_Value_sig (slices_ContainsFunc_fact_Value_fact_Value_con N) :=
  fnOk2 (q := slices_ContainsFunc_fact_Value_fact_Value_fun N) mix Try.func30 (by kernel_rfl) (by kernel_rfl) (by kernel_rfl) (by kernel_rfl) (by kernel_rfl) (by kernel_rfl) (by kernel_rfl) (tt_ok _ rfl) (fnsOk_of (by kernel_rfl)) (slices_ContainsFunc_fact_Value_fact_Value_calls N) (slices_ContainsFunc_fact_Value_fact_Value_loops N) (slices_ContainsFunc_fact_Value_fact_Value_run N)
noncomputable def sign_Right_tb : Tabs := ⟨TT, [], []⟩
noncomputable def sign_Right_H : Hints := ⟨[], [], [], ⟨⟨[0], [], [], []⟩, ⟨[(0, (.lf .bool))], [], []⟩⟩⟩
noncomputable def sign_Right_sig : Sig := ⟨⟨[(0, (.lf (.int .i64)))], [], []⟩, ⟨[(0, (.lf .bool))], [], []⟩, false⟩
noncomputable def sign_Right_code : Code := match Try.f64.body with | some c => c | none => .skip
noncomputable def sign_Right_res : List ResultVar := Try.f64.results.toList
noncomputable def sign_Right_con (N : Nat) : Con := ⟨(.int .i64), .bool, fun x => sign_Right N x⟩
noncomputable def sign_Right_cs (N : Nat) : List (Nat × Con) := []
noncomputable def sign_Right_ls (N : Nat) : List (Nat × LoopC (Bool)) := []
noncomputable def sign_Right_fun (N : Nat) : Fun := ⟨[(.int .i64)], sign_Right_tb, sign_Right_H, sign_Right_cs N, .bool, (sign_Right_con N).F, sign_Right_code, sign_Right_res, sign_Right_ls N⟩
theorem sign_Right_run (N : Nat) (x : (tupTy [(.int .i64)]).den) : (sign_Right_fun N).run (inSt [(.int .i64)] x) = (sign_Right_con N).F x := by kernel_rfl
theorem sign_Right_calls (N : Nat) : CallsOk Try.prog ids (phi Try.prog ids) (sign_Right_cs N) sign_Right_tb := fun k sg con h1 h2 => by
  exact (get_nilE h2).elim
theorem sign_Right_loops (N : Nat) : LoopsL (ρ := (sign_Right_fun N).B.den) (sign_Right_fun N).cs (sign_Right_fun N).ls (sign_Right_fun N).tb (sign_Right_fun N).H (sign_Right_fun N).fin (sign_Right_fun N).B (sign_Right_fun N).code := fun k lc h => by
  exact (get_nilE h).elim
theorem sign_Right_ok (N : Nat) : FnOk Try.prog ids (phi Try.prog ids) 64 sign_Right_sig (sign_Right_con N) :=
  fnOk2 (q := sign_Right_fun N) mix Try.func64 (by kernel_rfl) (by kernel_rfl) (by kernel_rfl) (by kernel_rfl) (by kernel_rfl) (by kernel_rfl) (by kernel_rfl) (tt_ok _ rfl) (fnsOk_of (by kernel_rfl)) (sign_Right_calls N) (sign_Right_loops N) (sign_Right_run N)
noncomputable def known_Known_tidy_tb : Tabs := ⟨TT, [], []⟩
noncomputable def known_Known_tidy_H : Hints := ⟨[(5, ⟨⟨[2, 1], [], [], []⟩, ⟨[(1, (.pt ⟨1001, 0, 0, 0, []⟩)), (2, (.pt ⟨1002, 0, 0, 0, []⟩))], [], [(1001, ⟨0, some 44, [⟨0, .o 0 .bool⟩, ⟨0, .o 0 (.int .i64)⟩]⟩), (1002, ⟨0, some 44, [⟨0, .o 0 .bool⟩, ⟨0, .o 0 (.int .i64)⟩]⟩)]⟩⟩)], [], [], ⟨⟨[0], [], [], []⟩, ⟨[(0, (.lf Y0))], [], []⟩⟩⟩
noncomputable def known_Known_tidy_sig : Sig := ⟨⟨[(0, (.lf Y0))], [], []⟩, ⟨[(0, (.lf Y0))], [], []⟩, false⟩
noncomputable def known_Known_tidy_code : Code := match Try.f94.body with | some c => c | none => .skip
noncomputable def known_Known_tidy_res : List ResultVar := Try.f94.results.toList
noncomputable def known_Known_tidy_con (N : Nat) : Con := ⟨Y0, Y0, fun x => known_Known_tidy N x⟩
noncomputable def known_Known_tidy_cs (N : Nat) : List (Nat × Con) := []
noncomputable def known_Known_tidy_ls (N : Nat) : List (Nat × LoopC (Bool × Int)) := []
noncomputable def known_Known_tidy_fun (N : Nat) : Fun := ⟨[Y0], known_Known_tidy_tb, known_Known_tidy_H, known_Known_tidy_cs N, Y0, (known_Known_tidy_con N).F, known_Known_tidy_code, known_Known_tidy_res, known_Known_tidy_ls N⟩
theorem known_Known_tidy_run (N : Nat) (x : (tupTy [Y0]).den) : (known_Known_tidy_fun N).run (inSt [Y0] x) = (known_Known_tidy_con N).F x := by kernel_rfl
theorem known_Known_tidy_calls (N : Nat) : CallsOk Try.prog ids (phi Try.prog ids) (known_Known_tidy_cs N) known_Known_tidy_tb := fun k sg con h1 h2 => by
  exact (get_nilE h2).elim
theorem known_Known_tidy_loops (N : Nat) : LoopsL (ρ := (known_Known_tidy_fun N).B.den) (known_Known_tidy_fun N).cs (known_Known_tidy_fun N).ls (known_Known_tidy_fun N).tb (known_Known_tidy_fun N).H (known_Known_tidy_fun N).fin (known_Known_tidy_fun N).B (known_Known_tidy_fun N).code := fun k lc h => by
  exact (get_nilE h).elim
theorem known_Known_tidy_ok (N : Nat) : FnOk Try.prog ids (phi Try.prog ids) 94 known_Known_tidy_sig (known_Known_tidy_con N) :=
  fnOk2 (q := known_Known_tidy_fun N) mix Try.func94 (by kernel_rfl) (by kernel_rfl) (by kernel_rfl) (by kernel_rfl) (by kernel_rfl) (by kernel_rfl) (by kernel_rfl) (tt_ok _ rfl) (fnsOk_of (by kernel_rfl)) (known_Known_tidy_calls N) (known_Known_tidy_loops N) (known_Known_tidy_run N)
noncomputable def known_Right_tb : Tabs := ⟨TT, [(94, known_Known_tidy_sig)], []⟩
noncomputable def known_Right_H : Hints := ⟨[], [], [], ⟨⟨[0], [], [], []⟩, ⟨[(0, (.lf .bool))], [], []⟩⟩⟩
noncomputable def known_Right_sig : Sig := ⟨⟨[(0, (.lf Y0))], [], []⟩, ⟨[(0, (.lf .bool))], [], []⟩, false⟩
noncomputable def known_Right_code : Code := match Try.f65.body with | some c => c | none => .skip
noncomputable def known_Right_res : List ResultVar := Try.f65.results.toList
noncomputable def known_Right_con (N : Nat) : Con := ⟨Y0, .bool, fun x => known_Right N x⟩
noncomputable def known_Right_cs (N : Nat) : List (Nat × Con) := [(94, known_Known_tidy_con N)]
noncomputable def known_Right_ls (N : Nat) : List (Nat × LoopC (Bool)) := []
noncomputable def known_Right_fun (N : Nat) : Fun := ⟨[Y0], known_Right_tb, known_Right_H, known_Right_cs N, .bool, (known_Right_con N).F, known_Right_code, known_Right_res, known_Right_ls N⟩
theorem known_Right_run (N : Nat) (x : (tupTy [Y0]).den) : (known_Right_fun N).run (inSt [Y0] x) = (known_Right_con N).F x := by kernel_rfl
theorem known_Right_calls (N : Nat) : CallsOk Try.prog ids (phi Try.prog ids) (known_Right_cs N) known_Right_tb := fun k sg con h1 h2 => by
  rcases get_consE h2 with ⟨rfl, rfl⟩ | h2
  · obtain rfl := Option.some.inj (h1.symm.trans (show get known_Right_tb.sigs 94 = some known_Known_tidy_sig from by kernel_rfl)); exact known_Known_tidy_ok N
  exact (get_nilE h2).elim
theorem known_Right_loops (N : Nat) : LoopsL (ρ := (known_Right_fun N).B.den) (known_Right_fun N).cs (known_Right_fun N).ls (known_Right_fun N).tb (known_Right_fun N).H (known_Right_fun N).fin (known_Right_fun N).B (known_Right_fun N).code := fun k lc h => by
  exact (get_nilE h).elim
theorem known_Right_ok (N : Nat) : FnOk Try.prog ids (phi Try.prog ids) 65 known_Right_sig (known_Right_con N) :=
  fnOk2 (q := known_Right_fun N) mix Try.func65 (by kernel_rfl) (by kernel_rfl) (by kernel_rfl) (by kernel_rfl) (by kernel_rfl) (by kernel_rfl) (by kernel_rfl) (tt_ok _ rfl) (fnsOk_of (by kernel_rfl)) (known_Right_calls N) (known_Right_loops N) (known_Right_run N)
noncomputable def span_Right_tb : Tabs := ⟨TT, [], []⟩
noncomputable def span_Right_H : Hints := ⟨[], [], [], ⟨⟨[0], [], [], []⟩, ⟨[(0, (.lf .bool))], [], []⟩⟩⟩
noncomputable def span_Right_sig : Sig := ⟨⟨[(0, (.lf Y1))], [], []⟩, ⟨[(0, (.lf .bool))], [], []⟩, false⟩
noncomputable def span_Right_code : Code := match Try.f66.body with | some c => c | none => .skip
noncomputable def span_Right_res : List ResultVar := Try.f66.results.toList
noncomputable def span_Right_con (N : Nat) : Con := ⟨Y1, .bool, fun x => span_Right N x⟩
noncomputable def span_Right_cs (N : Nat) : List (Nat × Con) := []
noncomputable def span_Right_ls (N : Nat) : List (Nat × LoopC (Bool)) := []
noncomputable def span_Right_fun (N : Nat) : Fun := ⟨[Y1], span_Right_tb, span_Right_H, span_Right_cs N, .bool, (span_Right_con N).F, span_Right_code, span_Right_res, span_Right_ls N⟩
theorem span_Right_run (N : Nat) (x : (tupTy [Y1]).den) : (span_Right_fun N).run (inSt [Y1] x) = (span_Right_con N).F x := by kernel_rfl
theorem span_Right_calls (N : Nat) : CallsOk Try.prog ids (phi Try.prog ids) (span_Right_cs N) span_Right_tb := fun k sg con h1 h2 => by
  exact (get_nilE h2).elim
theorem span_Right_loops (N : Nat) : LoopsL (ρ := (span_Right_fun N).B.den) (span_Right_fun N).cs (span_Right_fun N).ls (span_Right_fun N).tb (span_Right_fun N).H (span_Right_fun N).fin (span_Right_fun N).B (span_Right_fun N).code := fun k lc h => by
  exact (get_nilE h).elim
theorem span_Right_ok (N : Nat) : FnOk Try.prog ids (phi Try.prog ids) 66 span_Right_sig (span_Right_con N) :=
  fnOk2 (q := span_Right_fun N) mix Try.func66 (by kernel_rfl) (by kernel_rfl) (by kernel_rfl) (by kernel_rfl) (by kernel_rfl) (by kernel_rfl) (by kernel_rfl) (tt_ok _ rfl) (fnsOk_of (by kernel_rfl)) (span_Right_calls N) (span_Right_loops N) (span_Right_run N)
noncomputable def parity_Right_tb : Tabs := ⟨TT, [], []⟩
noncomputable def parity_Right_H : Hints := ⟨[], [], [], ⟨⟨[0], [], [], []⟩, ⟨[(0, (.lf .bool))], [], []⟩⟩⟩
noncomputable def parity_Right_sig : Sig := ⟨⟨[(0, (.lf (.int .i64)))], [], []⟩, ⟨[(0, (.lf .bool))], [], []⟩, false⟩
noncomputable def parity_Right_code : Code := match Try.f67.body with | some c => c | none => .skip
noncomputable def parity_Right_res : List ResultVar := Try.f67.results.toList
noncomputable def parity_Right_con (N : Nat) : Con := ⟨(.int .i64), .bool, fun x => parity_Right N x⟩
noncomputable def parity_Right_cs (N : Nat) : List (Nat × Con) := []
noncomputable def parity_Right_ls (N : Nat) : List (Nat × LoopC (Bool)) := []
noncomputable def parity_Right_fun (N : Nat) : Fun := ⟨[(.int .i64)], parity_Right_tb, parity_Right_H, parity_Right_cs N, .bool, (parity_Right_con N).F, parity_Right_code, parity_Right_res, parity_Right_ls N⟩
theorem parity_Right_run (N : Nat) (x : (tupTy [(.int .i64)]).den) : (parity_Right_fun N).run (inSt [(.int .i64)] x) = (parity_Right_con N).F x := by kernel_rfl
theorem parity_Right_calls (N : Nat) : CallsOk Try.prog ids (phi Try.prog ids) (parity_Right_cs N) parity_Right_tb := fun k sg con h1 h2 => by
  exact (get_nilE h2).elim
theorem parity_Right_loops (N : Nat) : LoopsL (ρ := (parity_Right_fun N).B.den) (parity_Right_fun N).cs (parity_Right_fun N).ls (parity_Right_fun N).tb (parity_Right_fun N).H (parity_Right_fun N).fin (parity_Right_fun N).B (parity_Right_fun N).code := fun k lc h => by
  exact (get_nilE h).elim
theorem parity_Right_ok (N : Nat) : FnOk Try.prog ids (phi Try.prog ids) 67 parity_Right_sig (parity_Right_con N) :=
  fnOk2 (q := parity_Right_fun N) mix Try.func67 (by kernel_rfl) (by kernel_rfl) (by kernel_rfl) (by kernel_rfl) (by kernel_rfl) (by kernel_rfl) (by kernel_rfl) (tt_ok _ rfl) (fnsOk_of (by kernel_rfl)) (parity_Right_calls N) (parity_Right_loops N) (parity_Right_run N)
noncomputable def fact_Right_tb : Tabs := ⟨TT, [(64, sign_Right_sig), (65, known_Right_sig), (66, span_Right_sig), (67, parity_Right_sig)], []⟩
noncomputable def fact_Right_H : Hints := ⟨[], [], [], ⟨⟨[0], [], [], []⟩, ⟨[(0, (.lf .bool))], [], []⟩⟩⟩
noncomputable def fact_Right_sig : Sig := ⟨⟨[(0, (.lf Y2))], [], []⟩, ⟨[(0, (.lf .bool))], [], []⟩, false⟩
noncomputable def fact_Right_code : Code := match Try.f32.body with | some c => c | none => .skip
noncomputable def fact_Right_res : List ResultVar := Try.f32.results.toList
noncomputable def fact_Right_con (N : Nat) : Con := ⟨Y2, .bool, fun x => fact_Right N x⟩
noncomputable def fact_Right_cs (N : Nat) : List (Nat × Con) := [(64, sign_Right_con N), (65, known_Right_con N), (66, span_Right_con N), (67, parity_Right_con N)]
noncomputable def fact_Right_ls (N : Nat) : List (Nat × LoopC (Bool)) := []
noncomputable def fact_Right_fun (N : Nat) : Fun := ⟨[Y2], fact_Right_tb, fact_Right_H, fact_Right_cs N, .bool, (fact_Right_con N).F, fact_Right_code, fact_Right_res, fact_Right_ls N⟩
theorem fact_Right_run (N : Nat) (x : (tupTy [Y2]).den) : (fact_Right_fun N).run (inSt [Y2] x) = (fact_Right_con N).F x := by kernel_rfl
theorem fact_Right_calls (N : Nat) : CallsOk Try.prog ids (phi Try.prog ids) (fact_Right_cs N) fact_Right_tb := fun k sg con h1 h2 => by
  rcases get_consE h2 with ⟨rfl, rfl⟩ | h2
  · obtain rfl := Option.some.inj (h1.symm.trans (show get fact_Right_tb.sigs 64 = some sign_Right_sig from by kernel_rfl)); exact sign_Right_ok N
  rcases get_consE h2 with ⟨rfl, rfl⟩ | h2
  · obtain rfl := Option.some.inj (h1.symm.trans (show get fact_Right_tb.sigs 65 = some known_Right_sig from by kernel_rfl)); exact known_Right_ok N
  rcases get_consE h2 with ⟨rfl, rfl⟩ | h2
  · obtain rfl := Option.some.inj (h1.symm.trans (show get fact_Right_tb.sigs 66 = some span_Right_sig from by kernel_rfl)); exact span_Right_ok N
  rcases get_consE h2 with ⟨rfl, rfl⟩ | h2
  · obtain rfl := Option.some.inj (h1.symm.trans (show get fact_Right_tb.sigs 67 = some parity_Right_sig from by kernel_rfl)); exact parity_Right_ok N
  exact (get_nilE h2).elim
theorem fact_Right_loops (N : Nat) : LoopsL (ρ := (fact_Right_fun N).B.den) (fact_Right_fun N).cs (fact_Right_fun N).ls (fact_Right_fun N).tb (fact_Right_fun N).H (fact_Right_fun N).fin (fact_Right_fun N).B (fact_Right_fun N).code := fun k lc h => by
  exact (get_nilE h).elim
theorem fact_Right_ok (N : Nat) : FnOk Try.prog ids (phi Try.prog ids) 32 fact_Right_sig (fact_Right_con N) :=
  fnOk2 (q := fact_Right_fun N) mix Try.func32 (by kernel_rfl) (by kernel_rfl) (by kernel_rfl) (by kernel_rfl) (by kernel_rfl) (by kernel_rfl) (by kernel_rfl) (tt_ok _ rfl) (fnsOk_of (by kernel_rfl)) (fact_Right_calls N) (fact_Right_loops N) (fact_Right_run N)
noncomputable def state_Right_1_tb : Tabs := ⟨TT, [(32, fact_Right_sig)], []⟩
noncomputable def state_Right_1_H : Hints := ⟨[], [], [], ⟨⟨[0], [], [], []⟩, ⟨[(0, (.lf .bool))], [], []⟩⟩⟩
noncomputable def state_Right_1_sig : Sig := ⟨⟨[(0, (.lf Y2))], [], []⟩, ⟨[(0, (.lf .bool))], [], []⟩, false⟩
noncomputable def state_Right_1_code : Code := match Try.f31.body with | some c => c | none => .skip
noncomputable def state_Right_1_res : List ResultVar := Try.f31.results.toList
noncomputable def state_Right_1_con (N : Nat) : Con := ⟨Y2, .bool, fun x => state_Right_1 N x⟩
noncomputable def state_Right_1_cs (N : Nat) : List (Nat × Con) := [(32, fact_Right_con N)]
noncomputable def state_Right_1_ls (N : Nat) : List (Nat × LoopC (Bool)) := []
noncomputable def state_Right_1_fun (N : Nat) : Fun := ⟨[Y2], state_Right_1_tb, state_Right_1_H, state_Right_1_cs N, .bool, (state_Right_1_con N).F, state_Right_1_code, state_Right_1_res, state_Right_1_ls N⟩
theorem state_Right_1_run (N : Nat) (x : (tupTy [Y2]).den) : (state_Right_1_fun N).run (inSt [Y2] x) = (state_Right_1_con N).F x := by kernel_rfl
theorem state_Right_1_calls (N : Nat) : CallsOk Try.prog ids (phi Try.prog ids) (state_Right_1_cs N) state_Right_1_tb := fun k sg con h1 h2 => by
  rcases get_consE h2 with ⟨rfl, rfl⟩ | h2
  · obtain rfl := Option.some.inj (h1.symm.trans (show get state_Right_1_tb.sigs 32 = some fact_Right_sig from by kernel_rfl)); exact fact_Right_ok N
  exact (get_nilE h2).elim
theorem state_Right_1_loops (N : Nat) : LoopsL (ρ := (state_Right_1_fun N).B.den) (state_Right_1_fun N).cs (state_Right_1_fun N).ls (state_Right_1_fun N).tb (state_Right_1_fun N).H (state_Right_1_fun N).fin (state_Right_1_fun N).B (state_Right_1_fun N).code := fun k lc h => by
  exact (get_nilE h).elim
theorem state_Right_1_ok (N : Nat) : FnOk Try.prog ids (phi Try.prog ids) 31 state_Right_1_sig (state_Right_1_con N) :=
  fnOk2 (q := state_Right_1_fun N) mix Try.func31 (by kernel_rfl) (by kernel_rfl) (by kernel_rfl) (by kernel_rfl) (by kernel_rfl) (by kernel_rfl) (by kernel_rfl) (tt_ok _ rfl) (fnsOk_of (by kernel_rfl)) (state_Right_1_calls N) (state_Right_1_loops N) (state_Right_1_run N)
noncomputable def state_Right_tb : Tabs := ⟨TT, [(29, bits_Right_sig), (30, slices_ContainsFunc_fact_Value_fact_Value_sig), (31, state_Right_1_sig)], []⟩
noncomputable def state_Right_H : Hints := ⟨[(11, ⟨⟨[2, 3, 1], [], [], []⟩, ⟨[(1, (.lf (.int .i64))), (2, (.lf (.int .i64))), (3, (.pt ⟨1003, 0, 0, 0, []⟩))], [], [(1003, ⟨0, some 32, [⟨0, .o 0 .bool⟩, ⟨0, .o 0 (.sl 47 Y2)⟩, ⟨0, .o 0 (.sl 27 (.sl 3 (.int .i64)))⟩]⟩)]⟩⟩)], [], [(7, ⟨⟨[27, 2, 25, 3, 26], [], [], []⟩, ⟨[(2, (.lf (.int .i64))), (3, (.pt ⟨1003, 0, 0, 0, []⟩)), (25, (.lf (.sl 27 (.sl 3 (.int .i64))))), (26, (.lf (.int .i64))), (27, (.lf (.int .i64)))], [], [(1003, ⟨0, some 32, [⟨0, .o 0 .bool⟩, ⟨0, .o 0 (.sl 47 Y2)⟩, ⟨0, .o 0 (.sl 27 (.sl 3 (.int .i64)))⟩]⟩)]⟩, [(0, ⟨⟨[3], [], [], []⟩, ⟨[(3, (.pt ⟨1003, 0, 0, 0, []⟩))], [], [(1003, ⟨0, some 32, [⟨0, .o 0 .bool⟩, ⟨0, .o 0 (.sl 47 Y2)⟩, ⟨0, .o 0 (.sl 27 (.sl 3 (.int .i64)))⟩]⟩)]⟩⟩)]⟩)], ⟨⟨[0], [], [], []⟩, ⟨[(0, (.lf .bool))], [], []⟩⟩⟩
noncomputable def state_Right_sig : Sig := ⟨⟨[(0, (.lf Y4)), (1, (.lf (.int .i64))), (2, (.lf (.int .i64)))], [], []⟩, ⟨[(0, (.lf .bool))], [], []⟩, false⟩
noncomputable def state_Right_code : Code := match Try.f10.body with | some c => c | none => .skip
noncomputable def state_Right_res : List ResultVar := Try.f10.results.toList
noncomputable def state_Right_con (N : Nat) : Con := ⟨(.pair Y4 (.pair (.int .i64) (.int .i64))), .bool, fun x => state_Right N x.1 x.2.1 x.2.2⟩
noncomputable def state_Right_cs (N : Nat) : List (Nat × Con) := [(29, bits_Right_con N), (30, slices_ContainsFunc_fact_Value_fact_Value_con N), (31, state_Right_1_con N), (1000031, state_Right_1_con N)]
noncomputable def state_Right_G7 (N n : Nat) (x : (tupTy [(.int .i64), (.sl 27 (.sl 3 (.int .i64))), (.int .i64), (.int .i64), .bool, (.sl 47 Y2), (.sl 27 (.sl 3 (.int .i64)))]).den) (ks : List (L → Option (Bool))) : Option (Bool) := state_Right_l7 N (fun y => kget ks 0 ⟨(.pair .bool (.pair (.sl 47 Y2) (.sl 27 (.sl 3 (.int .i64))))), y⟩) (fun y => kget ks 1 ⟨.bool, y⟩) n x.1 x.2.1 x.2.2.1 x.2.2.2.1 x.2.2.2.2.1 x.2.2.2.2.2.1 x.2.2.2.2.2.2
noncomputable def state_Right_lh7 : LH := lhAt state_Right_H 7
noncomputable def state_Right_c7 : Code := codeAt 7 state_Right_code
noncomputable def state_Right_ls (N : Nat) : List (Nat × LoopC (Bool)) := [(7, ⟨tupTy [(.int .i64), (.sl 27 (.sl 3 (.int .i64))), (.int .i64), (.int .i64), .bool, (.sl 47 Y2), (.sl 27 (.sl 3 (.int .i64)))], lenK 2 (state_Right_G7 N N)⟩)]
noncomputable def state_Right_fun (N : Nat) : Fun := ⟨[Y4, (.int .i64), (.int .i64)], state_Right_tb, state_Right_H, state_Right_cs N, .bool, (state_Right_con N).F, state_Right_code, state_Right_res, state_Right_ls N⟩
theorem state_Right_run (N : Nat) (x : (tupTy [Y4, (.int .i64), (.int .i64)]).den) : (state_Right_fun N).run (inSt [Y4, (.int .i64), (.int .i64)] x) = (state_Right_con N).F x := by kernel_rfl
theorem state_Right_o7 (N : Nat) : RoundOk (ρ := (state_Right_fun N).B.den) (state_Right_fun N).cs (state_Right_fun N).ls (state_Right_fun N).tb (state_Right_fun N).H (state_Right_fun N).fin (state_Right_fun N).B state_Right_lh7 state_Right_c7 [(.int .i64), (.sl 27 (.sl 3 (.int .i64))), (.int .i64), (.int .i64), .bool, (.sl 47 Y2), (.sl 27 (.sl 3 (.int .i64)))] [(.pair .bool (.pair (.sl 47 Y2) (.sl 27 (.sl 3 (.int .i64))))), .bool] (state_Right_G7 N) :=
  ⟨by kernel_rfl, fun _ _ => by kernel_rfl, fun _ _ _ => by kernel_rfl⟩
theorem state_Right_calls (N : Nat) : CallsOk Try.prog ids (phi Try.prog ids) (state_Right_cs N) state_Right_tb := fun k sg con h1 h2 => by
  rcases get_consE h2 with ⟨rfl, rfl⟩ | h2
  · obtain rfl := Option.some.inj (h1.symm.trans (show get state_Right_tb.sigs 29 = some bits_Right_sig from by kernel_rfl)); exact bits_Right_ok N
  rcases get_consE h2 with ⟨rfl, rfl⟩ | h2
  · obtain rfl := Option.some.inj (h1.symm.trans (show get state_Right_tb.sigs 30 = some slices_ContainsFunc_fact_Value_fact_Value_sig from by kernel_rfl)); exact slices_ContainsFunc_fact_Value_fact_Value_ok N
  rcases get_consE h2 with ⟨rfl, rfl⟩ | h2
  · obtain rfl := Option.some.inj (h1.symm.trans (show get state_Right_tb.sigs 31 = some state_Right_1_sig from by kernel_rfl)); exact state_Right_1_ok N
  rcases get_consE h2 with ⟨rfl, rfl⟩ | h2
  · cases (show get state_Right_tb.sigs 1000031 = none from by kernel_rfl).symm.trans h1
  exact (get_nilE h2).elim
theorem state_Right_loops (N : Nat) : LoopsL (ρ := (state_Right_fun N).B.den) (state_Right_fun N).cs (state_Right_fun N).ls (state_Right_fun N).tb (state_Right_fun N).H (state_Right_fun N).fin (state_Right_fun N).B (state_Right_fun N).code := fun k lc h => by
  rcases get_consE h with ⟨rfl, rfl⟩ | h
  · exact ⟨_, loopOk (state_Right_o7 N)⟩
  exact (get_nilE h).elim
theorem state_Right_fns (N : Nat) : FnsOk (phi Try.prog ids) (state_Right_cs N) := fun f c h => by
  rcases get_consE h with ⟨h1, _⟩ | h
  · omega
  rcases get_consE h with ⟨h1, _⟩ | h
  · omega
  rcases get_consE h with ⟨h1, _⟩ | h
  · omega
  rcases get_consE h with ⟨h1, rfl⟩ | h
  · obtain rfl : f = 31 := by omega
    exact fnVal (state_Right_1_ok N) (by kernel_rfl) (by kernel_rfl) (by kernel_rfl) (by kernel_rfl) (by kernel_rfl) (by kernel_rfl)
  exact (get_nilE h).elim
theorem state_Right_ok (N : Nat) : FnOk Try.prog ids (phi Try.prog ids) 10 state_Right_sig (state_Right_con N) :=
  fnOk2 (q := state_Right_fun N) mix Try.func10 (by kernel_rfl) (by kernel_rfl) (by kernel_rfl) (by kernel_rfl) (by kernel_rfl) (by kernel_rfl) (by kernel_rfl) (tt_ok _ rfl) (state_Right_fns N) (state_Right_calls N) (state_Right_loops N) (state_Right_run N)
noncomputable def avermentlaw13_told_tb : Tabs := ⟨TT, [(27, fact_Any_sig), (16, state_Begin_sig), (28, fact_Of_sig), (23, state_None_sig), (10, state_Right_sig)], [3]⟩
noncomputable def avermentlaw13_told_H : Hints := ⟨[], [], [], ⟨⟨[0], [], [], []⟩, ⟨[(0, (.lf .bool))], [], []⟩⟩⟩
noncomputable def avermentlaw13_told_sig : Sig := ⟨⟨[], [], []⟩, ⟨[(0, (.lf .bool))], [], []⟩, false⟩
noncomputable def avermentlaw13_told_code : Code := match Try.f8.body with | some c => c | none => .skip
noncomputable def avermentlaw13_told_res : List ResultVar := Try.f8.results.toList
noncomputable def avermentlaw13_told_con (N : Nat) : Con := ⟨.unit, .bool, fun x => avermentlaw13_told N⟩
noncomputable def avermentlaw13_told_cs (N : Nat) : List (Nat × Con) := [(27, fact_Any_con N), (16, state_Begin_con N), (28, fact_Of_con N), (23, state_None_con N), (10, state_Right_con N)]
noncomputable def avermentlaw13_told_ls (N : Nat) : List (Nat × LoopC (Bool)) := []
noncomputable def avermentlaw13_told_fun (N : Nat) : Fun := ⟨[], avermentlaw13_told_tb, avermentlaw13_told_H, avermentlaw13_told_cs N, .bool, (avermentlaw13_told_con N).F, avermentlaw13_told_code, avermentlaw13_told_res, avermentlaw13_told_ls N⟩
theorem avermentlaw13_told_run (N : Nat) (x : (tupTy []).den) : (avermentlaw13_told_fun N).run (inSt [] x) = (avermentlaw13_told_con N).F x := by kernel_rfl
theorem avermentlaw13_told_calls (N : Nat) : CallsOk Try.prog ids (phi Try.prog ids) (avermentlaw13_told_cs N) avermentlaw13_told_tb := fun k sg con h1 h2 => by
  rcases get_consE h2 with ⟨rfl, rfl⟩ | h2
  · obtain rfl := Option.some.inj (h1.symm.trans (show get avermentlaw13_told_tb.sigs 27 = some fact_Any_sig from by kernel_rfl)); exact fact_Any_ok N
  rcases get_consE h2 with ⟨rfl, rfl⟩ | h2
  · obtain rfl := Option.some.inj (h1.symm.trans (show get avermentlaw13_told_tb.sigs 16 = some state_Begin_sig from by kernel_rfl)); exact state_Begin_ok N
  rcases get_consE h2 with ⟨rfl, rfl⟩ | h2
  · obtain rfl := Option.some.inj (h1.symm.trans (show get avermentlaw13_told_tb.sigs 28 = some fact_Of_sig from by kernel_rfl)); exact fact_Of_ok N
  rcases get_consE h2 with ⟨rfl, rfl⟩ | h2
  · obtain rfl := Option.some.inj (h1.symm.trans (show get avermentlaw13_told_tb.sigs 23 = some state_None_sig from by kernel_rfl)); exact state_None_ok N
  rcases get_consE h2 with ⟨rfl, rfl⟩ | h2
  · obtain rfl := Option.some.inj (h1.symm.trans (show get avermentlaw13_told_tb.sigs 10 = some state_Right_sig from by kernel_rfl)); exact state_Right_ok N
  exact (get_nilE h2).elim
theorem avermentlaw13_told_loops (N : Nat) : LoopsL (ρ := (avermentlaw13_told_fun N).B.den) (avermentlaw13_told_fun N).cs (avermentlaw13_told_fun N).ls (avermentlaw13_told_fun N).tb (avermentlaw13_told_fun N).H (avermentlaw13_told_fun N).fin (avermentlaw13_told_fun N).B (avermentlaw13_told_fun N).code := fun k lc h => by
  exact (get_nilE h).elim
theorem avermentlaw13_told_ok (N : Nat) : FnOk Try.prog ids (phi Try.prog ids) 8 avermentlaw13_told_sig (avermentlaw13_told_con N) :=
  fnOk2 (q := avermentlaw13_told_fun N) mix Try.func8 (by kernel_rfl) (by kernel_rfl) (by kernel_rfl) (by kernel_rfl) (by kernel_rfl) (by kernel_rfl) (by kernel_rfl) (tt_ok _ rfl) (fnsOk_of (by kernel_rfl)) (avermentlaw13_told_calls N) (avermentlaw13_told_loops N) (avermentlaw13_told_run N)
noncomputable def avermentref13_Regs_tb : Tabs := ⟨TT, [], []⟩
noncomputable def avermentref13_Regs_H : Hints := ⟨[], [], [], ⟨⟨[0], [], [], []⟩, ⟨[(0, (.lf (.int .i64)))], [], []⟩⟩⟩
noncomputable def avermentref13_Regs_sig : Sig := ⟨⟨[(0, (.lf Y3))], [], []⟩, ⟨[(0, (.lf (.int .i64)))], [], []⟩, false⟩
noncomputable def avermentref13_Regs_code : Code := match Try.f52.body with | some c => c | none => .skip
noncomputable def avermentref13_Regs_res : List ResultVar := Try.f52.results.toList
noncomputable def avermentref13_Regs_con (N : Nat) : Con := ⟨Y3, (.int .i64), fun x => avermentref13_Regs N x⟩
noncomputable def avermentref13_Regs_cs (N : Nat) : List (Nat × Con) := []
noncomputable def avermentref13_Regs_ls (N : Nat) : List (Nat × LoopC (Int)) := []
noncomputable def avermentref13_Regs_fun (N : Nat) : Fun := ⟨[Y3], avermentref13_Regs_tb, avermentref13_Regs_H, avermentref13_Regs_cs N, (.int .i64), (avermentref13_Regs_con N).F, avermentref13_Regs_code, avermentref13_Regs_res, avermentref13_Regs_ls N⟩
theorem avermentref13_Regs_run (N : Nat) (x : (tupTy [Y3]).den) : (avermentref13_Regs_fun N).run (inSt [Y3] x) = (avermentref13_Regs_con N).F x := by kernel_rfl
theorem avermentref13_Regs_calls (N : Nat) : CallsOk Try.prog ids (phi Try.prog ids) (avermentref13_Regs_cs N) avermentref13_Regs_tb := fun k sg con h1 h2 => by
  exact (get_nilE h2).elim
theorem avermentref13_Regs_loops (N : Nat) : LoopsL (ρ := (avermentref13_Regs_fun N).B.den) (avermentref13_Regs_fun N).cs (avermentref13_Regs_fun N).ls (avermentref13_Regs_fun N).tb (avermentref13_Regs_fun N).H (avermentref13_Regs_fun N).fin (avermentref13_Regs_fun N).B (avermentref13_Regs_fun N).code := fun k lc h => by
  exact (get_nilE h).elim
theorem avermentref13_Regs_ok (N : Nat) : FnOk Try.prog ids (phi Try.prog ids) 52 avermentref13_Regs_sig (avermentref13_Regs_con N) :=
  fnOk2 (q := avermentref13_Regs_fun N) mix Try.func52 (by kernel_rfl) (by kernel_rfl) (by kernel_rfl) (by kernel_rfl) (by kernel_rfl) (by kernel_rfl) (by kernel_rfl) (tt_ok _ rfl) (fnsOk_of (by kernel_rfl)) (avermentref13_Regs_calls N) (avermentref13_Regs_loops N) (avermentref13_Regs_run N)
noncomputable def avermentref09_Clean_tb : Tabs := ⟨TT, [], []⟩
noncomputable def avermentref09_Clean_H : Hints := ⟨[], [], [], ⟨⟨[0], [], [], []⟩, ⟨[(0, (.lf Y0))], [], []⟩⟩⟩
noncomputable def avermentref09_Clean_sig : Sig := ⟨⟨[(0, (.lf Y0))], [], []⟩, ⟨[(0, (.lf Y0))], [], []⟩, false⟩
noncomputable def avermentref09_Clean_code : Code := match Try.f35.body with | some c => c | none => .skip
noncomputable def avermentref09_Clean_res : List ResultVar := Try.f35.results.toList
noncomputable def avermentref09_Clean_con (N : Nat) : Con := ⟨Y0, Y0, fun x => avermentref09_Clean N x⟩
noncomputable def avermentref09_Clean_cs (N : Nat) : List (Nat × Con) := []
noncomputable def avermentref09_Clean_ls (N : Nat) : List (Nat × LoopC (Bool × Int)) := []
noncomputable def avermentref09_Clean_fun (N : Nat) : Fun := ⟨[Y0], avermentref09_Clean_tb, avermentref09_Clean_H, avermentref09_Clean_cs N, Y0, (avermentref09_Clean_con N).F, avermentref09_Clean_code, avermentref09_Clean_res, avermentref09_Clean_ls N⟩
theorem avermentref09_Clean_run (N : Nat) (x : (tupTy [Y0]).den) : (avermentref09_Clean_fun N).run (inSt [Y0] x) = (avermentref09_Clean_con N).F x := by kernel_rfl
theorem avermentref09_Clean_calls (N : Nat) : CallsOk Try.prog ids (phi Try.prog ids) (avermentref09_Clean_cs N) avermentref09_Clean_tb := fun k sg con h1 h2 => by
  exact (get_nilE h2).elim
theorem avermentref09_Clean_loops (N : Nat) : LoopsL (ρ := (avermentref09_Clean_fun N).B.den) (avermentref09_Clean_fun N).cs (avermentref09_Clean_fun N).ls (avermentref09_Clean_fun N).tb (avermentref09_Clean_fun N).H (avermentref09_Clean_fun N).fin (avermentref09_Clean_fun N).B (avermentref09_Clean_fun N).code := fun k lc h => by
  exact (get_nilE h).elim
theorem avermentref09_Clean_ok (N : Nat) : FnOk Try.prog ids (phi Try.prog ids) 35 avermentref09_Clean_sig (avermentref09_Clean_con N) :=
  fnOk2 (q := avermentref09_Clean_fun N) mix Try.func35 (by kernel_rfl) (by kernel_rfl) (by kernel_rfl) (by kernel_rfl) (by kernel_rfl) (by kernel_rfl) (by kernel_rfl) (tt_ok _ rfl) (fnsOk_of (by kernel_rfl)) (avermentref09_Clean_calls N) (avermentref09_Clean_loops N) (avermentref09_Clean_run N)
noncomputable def avermentref10_Fix_tb : Tabs := ⟨TT, [], []⟩
noncomputable def avermentref10_Fix_H : Hints := ⟨[], [], [], ⟨⟨[0], [], [], []⟩, ⟨[(0, (.lf Y1))], [], []⟩⟩⟩
noncomputable def avermentref10_Fix_sig : Sig := ⟨⟨[(0, (.lf Y1))], [], []⟩, ⟨[(0, (.lf Y1))], [], []⟩, false⟩
noncomputable def avermentref10_Fix_code : Code := match Try.f36.body with | some c => c | none => .skip
noncomputable def avermentref10_Fix_res : List ResultVar := Try.f36.results.toList
noncomputable def avermentref10_Fix_con (N : Nat) : Con := ⟨Y1, Y1, fun x => avermentref10_Fix N x⟩
noncomputable def avermentref10_Fix_cs (N : Nat) : List (Nat × Con) := []
noncomputable def avermentref10_Fix_ls (N : Nat) : List (Nat × LoopC (Int × Int)) := []
noncomputable def avermentref10_Fix_fun (N : Nat) : Fun := ⟨[Y1], avermentref10_Fix_tb, avermentref10_Fix_H, avermentref10_Fix_cs N, Y1, (avermentref10_Fix_con N).F, avermentref10_Fix_code, avermentref10_Fix_res, avermentref10_Fix_ls N⟩
theorem avermentref10_Fix_run (N : Nat) (x : (tupTy [Y1]).den) : (avermentref10_Fix_fun N).run (inSt [Y1] x) = (avermentref10_Fix_con N).F x := by kernel_rfl
theorem avermentref10_Fix_calls (N : Nat) : CallsOk Try.prog ids (phi Try.prog ids) (avermentref10_Fix_cs N) avermentref10_Fix_tb := fun k sg con h1 h2 => by
  exact (get_nilE h2).elim
theorem avermentref10_Fix_loops (N : Nat) : LoopsL (ρ := (avermentref10_Fix_fun N).B.den) (avermentref10_Fix_fun N).cs (avermentref10_Fix_fun N).ls (avermentref10_Fix_fun N).tb (avermentref10_Fix_fun N).H (avermentref10_Fix_fun N).fin (avermentref10_Fix_fun N).B (avermentref10_Fix_fun N).code := fun k lc h => by
  exact (get_nilE h).elim
theorem avermentref10_Fix_ok (N : Nat) : FnOk Try.prog ids (phi Try.prog ids) 36 avermentref10_Fix_sig (avermentref10_Fix_con N) :=
  fnOk2 (q := avermentref10_Fix_fun N) mix Try.func36 (by kernel_rfl) (by kernel_rfl) (by kernel_rfl) (by kernel_rfl) (by kernel_rfl) (by kernel_rfl) (by kernel_rfl) (tt_ok _ rfl) (fnsOk_of (by kernel_rfl)) (avermentref10_Fix_calls N) (avermentref10_Fix_loops N) (avermentref10_Fix_run N)
noncomputable def avermentref12_Fix_tb : Tabs := ⟨TT, [(35, avermentref09_Clean_sig), (36, avermentref10_Fix_sig)], []⟩
noncomputable def avermentref12_Fix_H : Hints := ⟨[(17, ⟨⟨[2, 1], [], [], []⟩, ⟨[(1, (.pt ⟨1001, 0, 0, 0, []⟩)), (2, (.pt ⟨1002, 0, 0, 0, []⟩))], [], [(1001, ⟨0, some 42, [⟨0, .o 0 (.int .i64)⟩, ⟨0, .o 0 .bool⟩, ⟨0, .o 0 (.int .i64)⟩, ⟨0, .o 0 (.int .i64)⟩, ⟨0, .o 0 (.int .i64)⟩, ⟨0, .o 0 (.int .i64)⟩]⟩), (1002, ⟨0, some 42, [⟨0, .o 0 (.int .i64)⟩, ⟨0, .o 0 .bool⟩, ⟨0, .o 0 (.int .i64)⟩, ⟨0, .o 0 (.int .i64)⟩, ⟨0, .o 0 (.int .i64)⟩, ⟨0, .o 0 (.int .i64)⟩]⟩)]⟩⟩), (9, ⟨⟨[2, 1], [], [], []⟩, ⟨[(1, (.pt ⟨1001, 0, 0, 0, []⟩)), (2, (.pt ⟨1002, 0, 0, 0, []⟩))], [], [(1001, ⟨0, some 42, [⟨0, .o 0 (.int .i64)⟩, ⟨0, .o 0 .bool⟩, ⟨0, .o 0 (.int .i64)⟩, ⟨0, .o 0 (.int .i64)⟩, ⟨0, .o 0 (.int .i64)⟩, ⟨0, .o 0 (.int .i64)⟩]⟩), (1002, ⟨0, some 42, [⟨0, .o 0 (.int .i64)⟩, ⟨0, .o 0 .bool⟩, ⟨0, .o 0 (.int .i64)⟩, ⟨0, .o 0 (.int .i64)⟩, ⟨0, .o 0 (.int .i64)⟩, ⟨0, .o 0 (.int .i64)⟩]⟩)]⟩⟩)], [], [], ⟨⟨[0], [], [], []⟩, ⟨[(0, (.lf Y2))], [], []⟩⟩⟩
noncomputable def avermentref12_Fix_sig : Sig := ⟨⟨[(0, (.lf Y2))], [], []⟩, ⟨[(0, (.lf Y2))], [], []⟩, false⟩
noncomputable def avermentref12_Fix_code : Code := match Try.f13.body with | some c => c | none => .skip
noncomputable def avermentref12_Fix_res : List ResultVar := Try.f13.results.toList
noncomputable def avermentref12_Fix_con (N : Nat) : Con := ⟨Y2, Y2, fun x => avermentref12_Fix N x⟩
noncomputable def avermentref12_Fix_cs (N : Nat) : List (Nat × Con) := [(35, avermentref09_Clean_con N), (36, avermentref10_Fix_con N)]
noncomputable def avermentref12_Fix_ls (N : Nat) : List (Nat × LoopC (Int × (Bool × Int) × (Int × Int) × Int)) := []
noncomputable def avermentref12_Fix_fun (N : Nat) : Fun := ⟨[Y2], avermentref12_Fix_tb, avermentref12_Fix_H, avermentref12_Fix_cs N, Y2, (avermentref12_Fix_con N).F, avermentref12_Fix_code, avermentref12_Fix_res, avermentref12_Fix_ls N⟩
theorem avermentref12_Fix_run (N : Nat) (x : (tupTy [Y2]).den) : (avermentref12_Fix_fun N).run (inSt [Y2] x) = (avermentref12_Fix_con N).F x := by kernel_rfl
theorem avermentref12_Fix_calls (N : Nat) : CallsOk Try.prog ids (phi Try.prog ids) (avermentref12_Fix_cs N) avermentref12_Fix_tb := fun k sg con h1 h2 => by
  rcases get_consE h2 with ⟨rfl, rfl⟩ | h2
  · obtain rfl := Option.some.inj (h1.symm.trans (show get avermentref12_Fix_tb.sigs 35 = some avermentref09_Clean_sig from by kernel_rfl)); exact avermentref09_Clean_ok N
  rcases get_consE h2 with ⟨rfl, rfl⟩ | h2
  · obtain rfl := Option.some.inj (h1.symm.trans (show get avermentref12_Fix_tb.sigs 36 = some avermentref10_Fix_sig from by kernel_rfl)); exact avermentref10_Fix_ok N
  exact (get_nilE h2).elim
theorem avermentref12_Fix_loops (N : Nat) : LoopsL (ρ := (avermentref12_Fix_fun N).B.den) (avermentref12_Fix_fun N).cs (avermentref12_Fix_fun N).ls (avermentref12_Fix_fun N).tb (avermentref12_Fix_fun N).H (avermentref12_Fix_fun N).fin (avermentref12_Fix_fun N).B (avermentref12_Fix_fun N).code := fun k lc h => by
  exact (get_nilE h).elim
theorem avermentref12_Fix_ok (N : Nat) : FnOk Try.prog ids (phi Try.prog ids) 13 avermentref12_Fix_sig (avermentref12_Fix_con N) :=
  fnOk2 (q := avermentref12_Fix_fun N) mix Try.func13 (by kernel_rfl) (by kernel_rfl) (by kernel_rfl) (by kernel_rfl) (by kernel_rfl) (by kernel_rfl) (by kernel_rfl) (tt_ok _ rfl) (fnsOk_of (by kernel_rfl)) (avermentref12_Fix_calls N) (avermentref12_Fix_loops N) (avermentref12_Fix_run N)
noncomputable def avermentref04_Rise_tb : Tabs := ⟨TT, [], [53]⟩
noncomputable def avermentref04_Rise_H : Hints := ⟨[], [(1, ⟨⟨[3, 0, 4], [], [], []⟩, ⟨[(0, (.lf (.sl 3 (.int .i64)))), (3, (.ar ⟨1003, 0, 0, 0, []⟩)), (4, (.lf (.int .i64)))], [], [(1003, ⟨0, none, [⟨0, .o 1 (.sl 3 (.int .i64))⟩]⟩)]⟩⟩)], [(4, ⟨⟨[4, 3, 0], [3], [], []⟩, ⟨[(0, (.lf (.sl 3 (.int .i64)))), (3, (.ar ⟨1003, 0, 0, 0, []⟩)), (4, (.lf (.int .i64)))], [], [(1003, ⟨0, none, [⟨0, .o 1 (.sl 3 (.int .i64))⟩]⟩)]⟩, [(0, ⟨⟨[3], [], [], []⟩, ⟨[(3, (.ar ⟨1003, 0, 0, 0, []⟩))], [], [(1003, ⟨0, none, [⟨0, .o 1 (.sl 3 (.int .i64))⟩]⟩)]⟩⟩)]⟩), (7, ⟨⟨[5, 3, 0, 4], [], [], []⟩, ⟨[(0, (.lf (.sl 3 (.int .i64)))), (3, (.ar ⟨1003, 0, 0, 0, []⟩)), (4, (.lf (.int .i64))), (5, (.lf (.int .i64)))], [], [(1003, ⟨0, none, [⟨0, .o 1 (.sl 3 (.int .i64))⟩]⟩)]⟩, [(2, ⟨⟨[3, 0, 4, 5], [], [], []⟩, ⟨[(0, (.lf (.sl 3 (.int .i64)))), (3, (.ar ⟨1003, 0, 0, 0, []⟩)), (4, (.lf (.int .i64))), (5, (.lf (.int .i64)))], [], [(1003, ⟨0, none, [⟨0, .o 1 (.sl 3 (.int .i64))⟩]⟩)]⟩⟩)]⟩)], ⟨⟨[0], [], [], []⟩, ⟨[(0, (.lf (.sl 3 (.int .i64))))], [], []⟩⟩⟩
noncomputable def avermentref04_Rise_sig : Sig := ⟨⟨[(0, (.lf (.sl 3 (.int .i64))))], [], []⟩, ⟨[(0, (.lf (.sl 3 (.int .i64))))], [], []⟩, false⟩
noncomputable def avermentref04_Rise_code : Code := match Try.f53.body with | some c => c | none => .skip
noncomputable def avermentref04_Rise_res : List ResultVar := Try.f53.results.toList
noncomputable def avermentref04_Rise_con (N : Nat) : Con := ⟨(.sl 3 (.int .i64)), (.sl 3 (.int .i64)), fun x => avermentref04_Rise N x⟩
noncomputable def avermentref04_Rise_cs (N : Nat) : List (Nat × Con) := []
noncomputable def avermentref04_Rise_G7 (N n : Nat) (x : (tupTy [(.sl 3 (.int .i64)), (.int .i64), (.int .i64), (.sl 3 (.int .i64))]).den) (ks : List (L → Option (List Int))) : Option (List Int) := avermentref04_Rise_l7 N (fun y => kget ks 0 ⟨(.pair (.sl 3 (.int .i64)) (.pair (.int .i64) (.pair (.int .i64) (.sl 3 (.int .i64))))), y⟩) n x.1 x.2.1 x.2.2.1 x.2.2.2
noncomputable def avermentref04_Rise_lh7 : LH := lhAt avermentref04_Rise_H 7
noncomputable def avermentref04_Rise_c7 : Code := codeAt 7 avermentref04_Rise_code
noncomputable def avermentref04_Rise_G4 (N n : Nat) (x : (tupTy [(.sl 3 (.int .i64)), (.int .i64), (.sl 3 (.int .i64))]).den) (ks : List (L → Option (List Int))) : Option (List Int) := avermentref04_Rise_l4 N (fun y => kget ks 0 ⟨(.sl 3 (.int .i64)), y⟩) n x.1 x.2.1 x.2.2
noncomputable def avermentref04_Rise_lh4 : LH := lhAt avermentref04_Rise_H 4
noncomputable def avermentref04_Rise_c4 : Code := codeAt 4 avermentref04_Rise_code
noncomputable def avermentref04_Rise_ls (N : Nat) : List (Nat × LoopC (List Int)) := [(7, ⟨tupTy [(.sl 3 (.int .i64)), (.int .i64), (.int .i64), (.sl 3 (.int .i64))], lenK 1 (avermentref04_Rise_G7 N N)⟩), (4, ⟨tupTy [(.sl 3 (.int .i64)), (.int .i64), (.sl 3 (.int .i64))], lenK 1 (avermentref04_Rise_G4 N N)⟩)]
noncomputable def avermentref04_Rise_fun (N : Nat) : Fun := ⟨[(.sl 3 (.int .i64))], avermentref04_Rise_tb, avermentref04_Rise_H, avermentref04_Rise_cs N, (.sl 3 (.int .i64)), (avermentref04_Rise_con N).F, avermentref04_Rise_code, avermentref04_Rise_res, avermentref04_Rise_ls N⟩
theorem avermentref04_Rise_run (N : Nat) (x : (tupTy [(.sl 3 (.int .i64))]).den) : (avermentref04_Rise_fun N).run (inSt [(.sl 3 (.int .i64))] x) = (avermentref04_Rise_con N).F x := by kernel_rfl
theorem avermentref04_Rise_o7 (N : Nat) : RoundOk (ρ := (avermentref04_Rise_fun N).B.den) (avermentref04_Rise_fun N).cs (avermentref04_Rise_fun N).ls (avermentref04_Rise_fun N).tb (avermentref04_Rise_fun N).H (avermentref04_Rise_fun N).fin (avermentref04_Rise_fun N).B avermentref04_Rise_lh7 avermentref04_Rise_c7 [(.sl 3 (.int .i64)), (.int .i64), (.int .i64), (.sl 3 (.int .i64))] [(.pair (.sl 3 (.int .i64)) (.pair (.int .i64) (.pair (.int .i64) (.sl 3 (.int .i64)))))] (avermentref04_Rise_G7 N) :=
  ⟨by kernel_rfl, fun _ _ => by kernel_rfl, fun _ _ _ => by kernel_rfl⟩
theorem avermentref04_Rise_o4 (N : Nat) : RoundOk (ρ := (avermentref04_Rise_fun N).B.den) (avermentref04_Rise_fun N).cs (avermentref04_Rise_fun N).ls (avermentref04_Rise_fun N).tb (avermentref04_Rise_fun N).H (avermentref04_Rise_fun N).fin (avermentref04_Rise_fun N).B avermentref04_Rise_lh4 avermentref04_Rise_c4 [(.sl 3 (.int .i64)), (.int .i64), (.sl 3 (.int .i64))] [(.sl 3 (.int .i64))] (avermentref04_Rise_G4 N) :=
  ⟨by kernel_rfl, fun _ _ => by kernel_rfl, fun _ _ _ => by kernel_rfl⟩
theorem avermentref04_Rise_calls (N : Nat) : CallsOk Try.prog ids (phi Try.prog ids) (avermentref04_Rise_cs N) avermentref04_Rise_tb := fun k sg con h1 h2 => by
  exact (get_nilE h2).elim
theorem avermentref04_Rise_loops (N : Nat) : LoopsL (ρ := (avermentref04_Rise_fun N).B.den) (avermentref04_Rise_fun N).cs (avermentref04_Rise_fun N).ls (avermentref04_Rise_fun N).tb (avermentref04_Rise_fun N).H (avermentref04_Rise_fun N).fin (avermentref04_Rise_fun N).B (avermentref04_Rise_fun N).code := fun k lc h => by
  rcases get_consE h with ⟨rfl, rfl⟩ | h
  · exact ⟨_, loopOk (avermentref04_Rise_o7 N)⟩
  rcases get_consE h with ⟨rfl, rfl⟩ | h
  · exact ⟨_, loopOk (avermentref04_Rise_o4 N)⟩
  exact (get_nilE h).elim
theorem avermentref04_Rise_ok (N : Nat) : FnOk Try.prog ids (phi Try.prog ids) 53 avermentref04_Rise_sig (avermentref04_Rise_con N) :=
  fnOk2 (q := avermentref04_Rise_fun N) mix Try.func53 (by kernel_rfl) (by kernel_rfl) (by kernel_rfl) (by kernel_rfl) (by kernel_rfl) (by kernel_rfl) (by kernel_rfl) (tt_ok _ rfl) (fnsOk_of (by kernel_rfl)) (avermentref04_Rise_calls N) (avermentref04_Rise_loops N) (avermentref04_Rise_run N)
noncomputable def avermentref13_Fix_tb : Tabs := ⟨TT, [(52, avermentref13_Regs_sig), (13, avermentref12_Fix_sig), (53, avermentref04_Rise_sig)], [55, 65, 72]⟩
noncomputable def avermentref13_Fix_H : Hints := ⟨[], [], [(6, ⟨⟨[2, 8, 3, 7, 6, 1], [], [], [(1007, 2, 1)]⟩, ⟨[(1, (.lf (.int .i64))), (2, (.lf (.int .i64))), (3, (.pt ⟨1003, 0, 0, 0, []⟩)), (6, (.pt ⟨1006, 0, 0, 0, []⟩)), (7, (.pt ⟨1007, 0, 0, 0, []⟩)), (8, (.lf (.int .i64)))], [], [(1003, ⟨0, some 25, [⟨0, .o 0 .bool⟩, ⟨0, .o 0 (.sl 42 Y2)⟩, ⟨0, .o 0 (.sl 27 (.sl 3 (.int .i64)))⟩]⟩), (1006, ⟨0, some 25, [⟨0, .o 0 .bool⟩, ⟨0, .o 1 (.sl 42 Y2)⟩, ⟨0, .o 2 (.sl 27 (.sl 3 (.int .i64)))⟩]⟩), (1007, ⟨0, some 25, [⟨0, .o 0 .bool⟩, ⟨0, .o 1 (.sl 42 Y2)⟩, ⟨0, .o 1 (.sl 27 (.sl 3 (.int .i64)))⟩]⟩)]⟩, [(0, ⟨⟨[6, 7], [], [], []⟩, ⟨[(6, (.pt ⟨1006, 0, 0, 0, []⟩)), (7, (.pt ⟨1007, 0, 0, 0, []⟩))], [], [(1006, ⟨0, some 25, [⟨0, .o 0 .bool⟩, ⟨0, .o 1 (.sl 42 Y2)⟩, ⟨0, .o 2 (.sl 27 (.sl 3 (.int .i64)))⟩]⟩), (1007, ⟨0, some 25, [⟨0, .o 0 .bool⟩, ⟨0, .o 1 (.sl 42 Y2)⟩, ⟨0, .o 1 (.sl 27 (.sl 3 (.int .i64)))⟩]⟩)]⟩⟩)]⟩), (10, ⟨⟨[10, 2, 8, 3, 9, 7, 6, 1], [9], [], []⟩, ⟨[(1, (.lf (.int .i64))), (2, (.lf (.int .i64))), (3, (.pt ⟨1003, 0, 0, 0, []⟩)), (6, (.pt ⟨1006, 0, 0, 0, []⟩)), (7, (.pt ⟨1007, 0, 0, 0, []⟩)), (8, (.lf (.int .i64))), (9, (.ar ⟨1009, 0, 0, 0, []⟩)), (10, (.lf (.int .i64)))], [], [(1003, ⟨0, some 25, [⟨0, .o 0 .bool⟩, ⟨0, .o 0 (.sl 42 Y2)⟩, ⟨0, .o 0 (.sl 27 (.sl 3 (.int .i64)))⟩]⟩), (1006, ⟨0, some 25, [⟨0, .o 0 .bool⟩, ⟨0, .o 1 (.sl 42 Y2)⟩, ⟨0, .o 2 (.sl 27 (.sl 3 (.int .i64)))⟩]⟩), (1007, ⟨0, some 25, [⟨0, .o 0 .bool⟩, ⟨0, .o 1 (.sl 42 Y2)⟩, ⟨0, .o 1 (.sl 27 (.sl 3 (.int .i64)))⟩]⟩), (1009, ⟨0, none, [⟨0, .o 1 (.sl 3 (.int .i64))⟩]⟩)]⟩, [(2, ⟨⟨[2, 3, 7, 6, 1, 8, 9], [], [], []⟩, ⟨[(1, (.lf (.int .i64))), (2, (.lf (.int .i64))), (3, (.pt ⟨1003, 0, 0, 0, []⟩)), (6, (.pt ⟨1006, 0, 0, 0, []⟩)), (7, (.pt ⟨1007, 0, 0, 0, []⟩)), (8, (.lf (.int .i64))), (9, (.ar ⟨1009, 0, 0, 0, []⟩))], [], [(1003, ⟨0, some 25, [⟨0, .o 0 .bool⟩, ⟨0, .o 0 (.sl 42 Y2)⟩, ⟨0, .o 0 (.sl 27 (.sl 3 (.int .i64)))⟩]⟩), (1006, ⟨0, some 25, [⟨0, .o 0 .bool⟩, ⟨0, .o 1 (.sl 42 Y2)⟩, ⟨0, .o 2 (.sl 27 (.sl 3 (.int .i64)))⟩]⟩), (1007, ⟨0, some 25, [⟨0, .o 0 .bool⟩, ⟨0, .o 1 (.sl 42 Y2)⟩, ⟨0, .o 1 (.sl 27 (.sl 3 (.int .i64)))⟩]⟩), (1009, ⟨0, none, [⟨0, .o 1 (.sl 3 (.int .i64))⟩]⟩)]⟩⟩)]⟩)], ⟨⟨[0], [], [], []⟩, ⟨[(0, (.lf Y3))], [], []⟩⟩⟩
noncomputable def avermentref13_Fix_sig : Sig := ⟨⟨[(0, (.lf Y3)), (1, (.lf (.int .i64))), (2, (.lf (.int .i64)))], [], []⟩, ⟨[(0, (.lf Y3))], [], []⟩, false⟩
noncomputable def avermentref13_Fix_code : Code := match Try.f24.body with | some c => c | none => .skip
noncomputable def avermentref13_Fix_res : List ResultVar := Try.f24.results.toList
noncomputable def avermentref13_Fix_con (N : Nat) : Con := ⟨(.pair Y3 (.pair (.int .i64) (.int .i64))), Y3, fun x => avermentref13_Fix N x.1 x.2.1 x.2.2⟩
noncomputable def avermentref13_Fix_cs (N : Nat) : List (Nat × Con) := [(52, avermentref13_Regs_con N), (13, avermentref12_Fix_con N), (53, avermentref04_Rise_con N)]
noncomputable def avermentref13_Fix_G10 (N n : Nat) (x : (tupTy [(.int .i64), (.int .i64), (.int .i64), (.int .i64), .bool, (.sl 42 Y2), (.sl 27 (.sl 3 (.int .i64))), .bool, (.sl 42 Y2), (.sl 27 (.sl 3 (.int .i64))), .bool, (.sl 42 Y2), (.sl 27 (.sl 3 (.int .i64))), (.sl 3 (.int .i64))]).den) (ks : List (L → Option (Bool × (List (Int × (Bool × Int) × (Int × Int) × Int)) × List (List Int)))) : Option (Bool × (List (Int × (Bool × Int) × (Int × Int) × Int)) × List (List Int)) := avermentref13_Fix_l10 N (fun y => kget ks 0 ⟨(.pair (.int .i64) (.pair (.int .i64) (.pair (.int .i64) (.pair .bool (.pair (.sl 42 Y2) (.pair (.sl 27 (.sl 3 (.int .i64))) (.pair .bool (.pair (.sl 42 Y2) (.pair (.sl 27 (.sl 3 (.int .i64))) (.pair .bool (.pair (.sl 42 Y2) (.pair (.sl 27 (.sl 3 (.int .i64))) (.sl 3 (.int .i64)))))))))))))), y⟩) n x.1 x.2.1 x.2.2.1 x.2.2.2.1 x.2.2.2.2.1 x.2.2.2.2.2.1 x.2.2.2.2.2.2.1 x.2.2.2.2.2.2.2.1 x.2.2.2.2.2.2.2.2.1 x.2.2.2.2.2.2.2.2.2.1 x.2.2.2.2.2.2.2.2.2.2.1 x.2.2.2.2.2.2.2.2.2.2.2.1 x.2.2.2.2.2.2.2.2.2.2.2.2.1 x.2.2.2.2.2.2.2.2.2.2.2.2.2
noncomputable def avermentref13_Fix_lh10 : LH := lhAt avermentref13_Fix_H 10
noncomputable def avermentref13_Fix_c10 : Code := codeAt 10 avermentref13_Fix_code
noncomputable def avermentref13_Fix_G6 (N n : Nat) (x : (tupTy [(.int .i64), (.int .i64), (.int .i64), .bool, (.sl 42 Y2), (.sl 27 (.sl 3 (.int .i64))), .bool, (.sl 42 Y2), (.sl 27 (.sl 3 (.int .i64))), .bool, (.sl 42 Y2), (.sl 27 (.sl 3 (.int .i64)))]).den) (ks : List (L → Option (Bool × (List (Int × (Bool × Int) × (Int × Int) × Int)) × List (List Int)))) : Option (Bool × (List (Int × (Bool × Int) × (Int × Int) × Int)) × List (List Int)) := avermentref13_Fix_l6 N (fun y => kget ks 0 ⟨(.pair .bool (.pair (.sl 42 Y2) (.pair (.sl 27 (.sl 3 (.int .i64))) (.pair .bool (.pair (.sl 42 Y2) (.sl 27 (.sl 3 (.int .i64)))))))), y⟩) n x.1 x.2.1 x.2.2.1 x.2.2.2.1 x.2.2.2.2.1 x.2.2.2.2.2.1 x.2.2.2.2.2.2.1 x.2.2.2.2.2.2.2.1 x.2.2.2.2.2.2.2.2.1 x.2.2.2.2.2.2.2.2.2.1 x.2.2.2.2.2.2.2.2.2.2.1 x.2.2.2.2.2.2.2.2.2.2.2
noncomputable def avermentref13_Fix_lh6 : LH := lhAt avermentref13_Fix_H 6
noncomputable def avermentref13_Fix_c6 : Code := codeAt 6 avermentref13_Fix_code
noncomputable def avermentref13_Fix_ls (N : Nat) : List (Nat × LoopC (Bool × (List (Int × (Bool × Int) × (Int × Int) × Int)) × List (List Int))) := [(10, ⟨tupTy [(.int .i64), (.int .i64), (.int .i64), (.int .i64), .bool, (.sl 42 Y2), (.sl 27 (.sl 3 (.int .i64))), .bool, (.sl 42 Y2), (.sl 27 (.sl 3 (.int .i64))), .bool, (.sl 42 Y2), (.sl 27 (.sl 3 (.int .i64))), (.sl 3 (.int .i64))], lenK 1 (avermentref13_Fix_G10 N N)⟩), (6, ⟨tupTy [(.int .i64), (.int .i64), (.int .i64), .bool, (.sl 42 Y2), (.sl 27 (.sl 3 (.int .i64))), .bool, (.sl 42 Y2), (.sl 27 (.sl 3 (.int .i64))), .bool, (.sl 42 Y2), (.sl 27 (.sl 3 (.int .i64)))], lenK 1 (avermentref13_Fix_G6 N N)⟩)]
noncomputable def avermentref13_Fix_fun (N : Nat) : Fun := ⟨[Y3, (.int .i64), (.int .i64)], avermentref13_Fix_tb, avermentref13_Fix_H, avermentref13_Fix_cs N, Y3, (avermentref13_Fix_con N).F, avermentref13_Fix_code, avermentref13_Fix_res, avermentref13_Fix_ls N⟩
theorem avermentref13_Fix_run (N : Nat) (x : (tupTy [Y3, (.int .i64), (.int .i64)]).den) : (avermentref13_Fix_fun N).run (inSt [Y3, (.int .i64), (.int .i64)] x) = (avermentref13_Fix_con N).F x := by kernel_rfl
theorem avermentref13_Fix_o10 (N : Nat) : RoundOk (ρ := (avermentref13_Fix_fun N).B.den) (avermentref13_Fix_fun N).cs (avermentref13_Fix_fun N).ls (avermentref13_Fix_fun N).tb (avermentref13_Fix_fun N).H (avermentref13_Fix_fun N).fin (avermentref13_Fix_fun N).B avermentref13_Fix_lh10 avermentref13_Fix_c10 [(.int .i64), (.int .i64), (.int .i64), (.int .i64), .bool, (.sl 42 Y2), (.sl 27 (.sl 3 (.int .i64))), .bool, (.sl 42 Y2), (.sl 27 (.sl 3 (.int .i64))), .bool, (.sl 42 Y2), (.sl 27 (.sl 3 (.int .i64))), (.sl 3 (.int .i64))] [(.pair (.int .i64) (.pair (.int .i64) (.pair (.int .i64) (.pair .bool (.pair (.sl 42 Y2) (.pair (.sl 27 (.sl 3 (.int .i64))) (.pair .bool (.pair (.sl 42 Y2) (.pair (.sl 27 (.sl 3 (.int .i64))) (.pair .bool (.pair (.sl 42 Y2) (.pair (.sl 27 (.sl 3 (.int .i64))) (.sl 3 (.int .i64))))))))))))))] (avermentref13_Fix_G10 N) :=
  ⟨by kernel_rfl, fun _ _ => by kernel_rfl, fun _ _ _ => by kernel_rfl⟩
theorem avermentref13_Fix_o6 (N : Nat) : RoundOk (ρ := (avermentref13_Fix_fun N).B.den) (avermentref13_Fix_fun N).cs (avermentref13_Fix_fun N).ls (avermentref13_Fix_fun N).tb (avermentref13_Fix_fun N).H (avermentref13_Fix_fun N).fin (avermentref13_Fix_fun N).B avermentref13_Fix_lh6 avermentref13_Fix_c6 [(.int .i64), (.int .i64), (.int .i64), .bool, (.sl 42 Y2), (.sl 27 (.sl 3 (.int .i64))), .bool, (.sl 42 Y2), (.sl 27 (.sl 3 (.int .i64))), .bool, (.sl 42 Y2), (.sl 27 (.sl 3 (.int .i64)))] [(.pair .bool (.pair (.sl 42 Y2) (.pair (.sl 27 (.sl 3 (.int .i64))) (.pair .bool (.pair (.sl 42 Y2) (.sl 27 (.sl 3 (.int .i64))))))))] (avermentref13_Fix_G6 N) :=
  ⟨by kernel_rfl, fun _ _ => by kernel_rfl, fun _ _ _ => by kernel_rfl⟩
theorem avermentref13_Fix_calls (N : Nat) : CallsOk Try.prog ids (phi Try.prog ids) (avermentref13_Fix_cs N) avermentref13_Fix_tb := fun k sg con h1 h2 => by
  rcases get_consE h2 with ⟨rfl, rfl⟩ | h2
  · obtain rfl := Option.some.inj (h1.symm.trans (show get avermentref13_Fix_tb.sigs 52 = some avermentref13_Regs_sig from by kernel_rfl)); exact avermentref13_Regs_ok N
  rcases get_consE h2 with ⟨rfl, rfl⟩ | h2
  · obtain rfl := Option.some.inj (h1.symm.trans (show get avermentref13_Fix_tb.sigs 13 = some avermentref12_Fix_sig from by kernel_rfl)); exact avermentref12_Fix_ok N
  rcases get_consE h2 with ⟨rfl, rfl⟩ | h2
  · obtain rfl := Option.some.inj (h1.symm.trans (show get avermentref13_Fix_tb.sigs 53 = some avermentref04_Rise_sig from by kernel_rfl)); exact avermentref04_Rise_ok N
  exact (get_nilE h2).elim
theorem avermentref13_Fix_loops (N : Nat) : LoopsL (ρ := (avermentref13_Fix_fun N).B.den) (avermentref13_Fix_fun N).cs (avermentref13_Fix_fun N).ls (avermentref13_Fix_fun N).tb (avermentref13_Fix_fun N).H (avermentref13_Fix_fun N).fin (avermentref13_Fix_fun N).B (avermentref13_Fix_fun N).code := fun k lc h => by
  rcases get_consE h with ⟨rfl, rfl⟩ | h
  · exact ⟨_, loopOk (avermentref13_Fix_o10 N)⟩
  rcases get_consE h with ⟨rfl, rfl⟩ | h
  · exact ⟨_, loopOk (avermentref13_Fix_o6 N)⟩
  exact (get_nilE h).elim
theorem avermentref13_Fix_ok (N : Nat) : FnOk Try.prog ids (phi Try.prog ids) 24 avermentref13_Fix_sig (avermentref13_Fix_con N) :=
  fnOk2 (q := avermentref13_Fix_fun N) mix Try.func24 (by kernel_rfl) (by kernel_rfl) (by kernel_rfl) (by kernel_rfl) (by kernel_rfl) (by kernel_rfl) (by kernel_rfl) (tt_ok _ rfl) (fnsOk_of (by kernel_rfl)) (avermentref13_Fix_calls N) (avermentref13_Fix_loops N) (avermentref13_Fix_run N)
noncomputable def avermentlaw13_fix_tb : Tabs := ⟨TT, [(24, avermentref13_Fix_sig)], []⟩
noncomputable def avermentlaw13_fix_H : Hints := ⟨[], [], [], ⟨⟨[0], [], [], []⟩, ⟨[(0, (.lf Y3))], [], []⟩⟩⟩
noncomputable def avermentlaw13_fix_sig : Sig := ⟨⟨[(0, (.lf Y3))], [], []⟩, ⟨[(0, (.lf Y3))], [], []⟩, false⟩
noncomputable def avermentlaw13_fix_code : Code := match Try.f9.body with | some c => c | none => .skip
noncomputable def avermentlaw13_fix_res : List ResultVar := Try.f9.results.toList
noncomputable def avermentlaw13_fix_con (N : Nat) : Con := ⟨Y3, Y3, fun x => avermentlaw13_fix N x⟩
noncomputable def avermentlaw13_fix_cs (N : Nat) : List (Nat × Con) := [(24, avermentref13_Fix_con N)]
noncomputable def avermentlaw13_fix_ls (N : Nat) : List (Nat × LoopC (Bool × (List (Int × (Bool × Int) × (Int × Int) × Int)) × List (List Int))) := []
noncomputable def avermentlaw13_fix_fun (N : Nat) : Fun := ⟨[Y3], avermentlaw13_fix_tb, avermentlaw13_fix_H, avermentlaw13_fix_cs N, Y3, (avermentlaw13_fix_con N).F, avermentlaw13_fix_code, avermentlaw13_fix_res, avermentlaw13_fix_ls N⟩
theorem avermentlaw13_fix_run (N : Nat) (x : (tupTy [Y3]).den) : (avermentlaw13_fix_fun N).run (inSt [Y3] x) = (avermentlaw13_fix_con N).F x := by kernel_rfl
theorem avermentlaw13_fix_calls (N : Nat) : CallsOk Try.prog ids (phi Try.prog ids) (avermentlaw13_fix_cs N) avermentlaw13_fix_tb := fun k sg con h1 h2 => by
  rcases get_consE h2 with ⟨rfl, rfl⟩ | h2
  · obtain rfl := Option.some.inj (h1.symm.trans (show get avermentlaw13_fix_tb.sigs 24 = some avermentref13_Fix_sig from by kernel_rfl)); exact avermentref13_Fix_ok N
  exact (get_nilE h2).elim
theorem avermentlaw13_fix_loops (N : Nat) : LoopsL (ρ := (avermentlaw13_fix_fun N).B.den) (avermentlaw13_fix_fun N).cs (avermentlaw13_fix_fun N).ls (avermentlaw13_fix_fun N).tb (avermentlaw13_fix_fun N).H (avermentlaw13_fix_fun N).fin (avermentlaw13_fix_fun N).B (avermentlaw13_fix_fun N).code := fun k lc h => by
  exact (get_nilE h).elim
theorem avermentlaw13_fix_ok (N : Nat) : FnOk Try.prog ids (phi Try.prog ids) 9 avermentlaw13_fix_sig (avermentlaw13_fix_con N) :=
  fnOk2 (q := avermentlaw13_fix_fun N) mix Try.func9 (by kernel_rfl) (by kernel_rfl) (by kernel_rfl) (by kernel_rfl) (by kernel_rfl) (by kernel_rfl) (by kernel_rfl) (tt_ok _ rfl) (fnsOk_of (by kernel_rfl)) (avermentlaw13_fix_calls N) (avermentlaw13_fix_loops N) (avermentlaw13_fix_run N)
noncomputable def avermentlaw09_To_tb : Tabs := ⟨TT, [], []⟩
noncomputable def avermentlaw09_To_H : Hints := ⟨[], [], [], ⟨⟨[0], [], [], []⟩, ⟨[(0, (.lf Y0))], [], []⟩⟩⟩
noncomputable def avermentlaw09_To_sig : Sig := ⟨⟨[(0, (.lf Y0))], [], []⟩, ⟨[(0, (.lf Y0))], [], []⟩, false⟩
noncomputable def avermentlaw09_To_code : Code := match Try.f37.body with | some c => c | none => .skip
noncomputable def avermentlaw09_To_res : List ResultVar := Try.f37.results.toList
noncomputable def avermentlaw09_To_con (N : Nat) : Con := ⟨Y0, Y0, fun x => avermentlaw09_To N x⟩
noncomputable def avermentlaw09_To_cs (N : Nat) : List (Nat × Con) := []
noncomputable def avermentlaw09_To_ls (N : Nat) : List (Nat × LoopC (Bool × Int)) := []
noncomputable def avermentlaw09_To_fun (N : Nat) : Fun := ⟨[Y0], avermentlaw09_To_tb, avermentlaw09_To_H, avermentlaw09_To_cs N, Y0, (avermentlaw09_To_con N).F, avermentlaw09_To_code, avermentlaw09_To_res, avermentlaw09_To_ls N⟩
theorem avermentlaw09_To_run (N : Nat) (x : (tupTy [Y0]).den) : (avermentlaw09_To_fun N).run (inSt [Y0] x) = (avermentlaw09_To_con N).F x := by kernel_rfl
theorem avermentlaw09_To_calls (N : Nat) : CallsOk Try.prog ids (phi Try.prog ids) (avermentlaw09_To_cs N) avermentlaw09_To_tb := fun k sg con h1 h2 => by
  exact (get_nilE h2).elim
theorem avermentlaw09_To_loops (N : Nat) : LoopsL (ρ := (avermentlaw09_To_fun N).B.den) (avermentlaw09_To_fun N).cs (avermentlaw09_To_fun N).ls (avermentlaw09_To_fun N).tb (avermentlaw09_To_fun N).H (avermentlaw09_To_fun N).fin (avermentlaw09_To_fun N).B (avermentlaw09_To_fun N).code := fun k lc h => by
  exact (get_nilE h).elim
theorem avermentlaw09_To_ok (N : Nat) : FnOk Try.prog ids (phi Try.prog ids) 37 avermentlaw09_To_sig (avermentlaw09_To_con N) :=
  fnOk2 (q := avermentlaw09_To_fun N) mix Try.func37 (by kernel_rfl) (by kernel_rfl) (by kernel_rfl) (by kernel_rfl) (by kernel_rfl) (by kernel_rfl) (by kernel_rfl) (tt_ok _ rfl) (fnsOk_of (by kernel_rfl)) (avermentlaw09_To_calls N) (avermentlaw09_To_loops N) (avermentlaw09_To_run N)
noncomputable def avermentlaw10_To_tb : Tabs := ⟨TT, [], []⟩
noncomputable def avermentlaw10_To_H : Hints := ⟨[], [], [], ⟨⟨[0], [], [], []⟩, ⟨[(0, (.lf Y1))], [], []⟩⟩⟩
noncomputable def avermentlaw10_To_sig : Sig := ⟨⟨[(0, (.lf Y1))], [], []⟩, ⟨[(0, (.lf Y1))], [], []⟩, false⟩
noncomputable def avermentlaw10_To_code : Code := match Try.f38.body with | some c => c | none => .skip
noncomputable def avermentlaw10_To_res : List ResultVar := Try.f38.results.toList
noncomputable def avermentlaw10_To_con (N : Nat) : Con := ⟨Y1, Y1, fun x => avermentlaw10_To N x⟩
noncomputable def avermentlaw10_To_cs (N : Nat) : List (Nat × Con) := []
noncomputable def avermentlaw10_To_ls (N : Nat) : List (Nat × LoopC (Int × Int)) := []
noncomputable def avermentlaw10_To_fun (N : Nat) : Fun := ⟨[Y1], avermentlaw10_To_tb, avermentlaw10_To_H, avermentlaw10_To_cs N, Y1, (avermentlaw10_To_con N).F, avermentlaw10_To_code, avermentlaw10_To_res, avermentlaw10_To_ls N⟩
theorem avermentlaw10_To_run (N : Nat) (x : (tupTy [Y1]).den) : (avermentlaw10_To_fun N).run (inSt [Y1] x) = (avermentlaw10_To_con N).F x := by kernel_rfl
theorem avermentlaw10_To_calls (N : Nat) : CallsOk Try.prog ids (phi Try.prog ids) (avermentlaw10_To_cs N) avermentlaw10_To_tb := fun k sg con h1 h2 => by
  exact (get_nilE h2).elim
theorem avermentlaw10_To_loops (N : Nat) : LoopsL (ρ := (avermentlaw10_To_fun N).B.den) (avermentlaw10_To_fun N).cs (avermentlaw10_To_fun N).ls (avermentlaw10_To_fun N).tb (avermentlaw10_To_fun N).H (avermentlaw10_To_fun N).fin (avermentlaw10_To_fun N).B (avermentlaw10_To_fun N).code := fun k lc h => by
  exact (get_nilE h).elim
theorem avermentlaw10_To_ok (N : Nat) : FnOk Try.prog ids (phi Try.prog ids) 38 avermentlaw10_To_sig (avermentlaw10_To_con N) :=
  fnOk2 (q := avermentlaw10_To_fun N) mix Try.func38 (by kernel_rfl) (by kernel_rfl) (by kernel_rfl) (by kernel_rfl) (by kernel_rfl) (by kernel_rfl) (by kernel_rfl) (tt_ok _ rfl) (fnsOk_of (by kernel_rfl)) (avermentlaw10_To_calls N) (avermentlaw10_To_loops N) (avermentlaw10_To_run N)
noncomputable def avermentlaw12_To_tb : Tabs := ⟨TT, [(37, avermentlaw09_To_sig), (38, avermentlaw10_To_sig)], []⟩
noncomputable def avermentlaw12_To_H : Hints := ⟨[], [], [], ⟨⟨[0], [], [], []⟩, ⟨[(0, (.lf Y2))], [], []⟩⟩⟩
noncomputable def avermentlaw12_To_sig : Sig := ⟨⟨[(0, (.lf Y2))], [], []⟩, ⟨[(0, (.lf Y2))], [], []⟩, false⟩
noncomputable def avermentlaw12_To_code : Code := match Try.f14.body with | some c => c | none => .skip
noncomputable def avermentlaw12_To_res : List ResultVar := Try.f14.results.toList
noncomputable def avermentlaw12_To_con (N : Nat) : Con := ⟨Y2, Y2, fun x => avermentlaw12_To N x⟩
noncomputable def avermentlaw12_To_cs (N : Nat) : List (Nat × Con) := [(37, avermentlaw09_To_con N), (38, avermentlaw10_To_con N)]
noncomputable def avermentlaw12_To_ls (N : Nat) : List (Nat × LoopC (Int × (Bool × Int) × (Int × Int) × Int)) := []
noncomputable def avermentlaw12_To_fun (N : Nat) : Fun := ⟨[Y2], avermentlaw12_To_tb, avermentlaw12_To_H, avermentlaw12_To_cs N, Y2, (avermentlaw12_To_con N).F, avermentlaw12_To_code, avermentlaw12_To_res, avermentlaw12_To_ls N⟩
theorem avermentlaw12_To_run (N : Nat) (x : (tupTy [Y2]).den) : (avermentlaw12_To_fun N).run (inSt [Y2] x) = (avermentlaw12_To_con N).F x := by kernel_rfl
theorem avermentlaw12_To_calls (N : Nat) : CallsOk Try.prog ids (phi Try.prog ids) (avermentlaw12_To_cs N) avermentlaw12_To_tb := fun k sg con h1 h2 => by
  rcases get_consE h2 with ⟨rfl, rfl⟩ | h2
  · obtain rfl := Option.some.inj (h1.symm.trans (show get avermentlaw12_To_tb.sigs 37 = some avermentlaw09_To_sig from by kernel_rfl)); exact avermentlaw09_To_ok N
  rcases get_consE h2 with ⟨rfl, rfl⟩ | h2
  · obtain rfl := Option.some.inj (h1.symm.trans (show get avermentlaw12_To_tb.sigs 38 = some avermentlaw10_To_sig from by kernel_rfl)); exact avermentlaw10_To_ok N
  exact (get_nilE h2).elim
theorem avermentlaw12_To_loops (N : Nat) : LoopsL (ρ := (avermentlaw12_To_fun N).B.den) (avermentlaw12_To_fun N).cs (avermentlaw12_To_fun N).ls (avermentlaw12_To_fun N).tb (avermentlaw12_To_fun N).H (avermentlaw12_To_fun N).fin (avermentlaw12_To_fun N).B (avermentlaw12_To_fun N).code := fun k lc h => by
  exact (get_nilE h).elim
theorem avermentlaw12_To_ok (N : Nat) : FnOk Try.prog ids (phi Try.prog ids) 14 avermentlaw12_To_sig (avermentlaw12_To_con N) :=
  fnOk2 (q := avermentlaw12_To_fun N) mix Try.func14 (by kernel_rfl) (by kernel_rfl) (by kernel_rfl) (by kernel_rfl) (by kernel_rfl) (by kernel_rfl) (by kernel_rfl) (tt_ok _ rfl) (fnsOk_of (by kernel_rfl)) (avermentlaw12_To_calls N) (avermentlaw12_To_loops N) (avermentlaw12_To_run N)
noncomputable def avermentlaw13_To_tb : Tabs := ⟨TT, [(14, avermentlaw12_To_sig)], [24, 43]⟩
noncomputable def avermentlaw13_To_H : Hints := ⟨[], [], [(8, ⟨⟨[5, 3, 1, 2], [], [], [(1003, 2, 1)]⟩, ⟨[(1, (.pt ⟨1001, 0, 0, 0, []⟩)), (2, (.pt ⟨1002, 0, 0, 0, []⟩)), (3, (.pt ⟨1003, 0, 0, 0, []⟩)), (5, (.lf (.int .i64)))], [], [(1001, ⟨0, some 25, [⟨0, .o 0 .bool⟩, ⟨0, .o 0 (.sl 42 Y2)⟩, ⟨0, .o 0 (.sl 27 (.sl 3 (.int .i64)))⟩]⟩), (1002, ⟨0, some 32, [⟨0, .o 0 .bool⟩, ⟨0, .o 1 (.sl 47 Y2)⟩, ⟨0, .o 2 (.sl 27 (.sl 3 (.int .i64)))⟩]⟩), (1003, ⟨0, some 32, [⟨0, .o 0 .bool⟩, ⟨0, .o 1 (.sl 47 Y2)⟩, ⟨0, .o 1 (.sl 27 (.sl 3 (.int .i64)))⟩]⟩)]⟩, [(2, ⟨⟨[2, 3], [], [], []⟩, ⟨[(2, (.pt ⟨1002, 0, 0, 0, []⟩)), (3, (.pt ⟨1003, 0, 0, 0, []⟩))], [], [(1002, ⟨0, some 32, [⟨0, .o 0 .bool⟩, ⟨0, .o 1 (.sl 47 Y2)⟩, ⟨0, .o 2 (.sl 27 (.sl 3 (.int .i64)))⟩]⟩), (1003, ⟨0, some 32, [⟨0, .o 0 .bool⟩, ⟨0, .o 1 (.sl 47 Y2)⟩, ⟨0, .o 1 (.sl 27 (.sl 3 (.int .i64)))⟩]⟩)]⟩⟩)]⟩), (4, ⟨⟨[4, 3, 1, 2], [], [], []⟩, ⟨[(1, (.pt ⟨1001, 0, 0, 0, []⟩)), (2, (.pt ⟨1002, 0, 0, 0, []⟩)), (3, (.pt ⟨1003, 0, 0, 0, []⟩)), (4, (.lf (.int .i64)))], [], [(1001, ⟨0, some 25, [⟨0, .o 0 .bool⟩, ⟨0, .o 0 (.sl 42 Y2)⟩, ⟨0, .o 0 (.sl 27 (.sl 3 (.int .i64)))⟩]⟩), (1002, ⟨0, some 32, [⟨0, .o 0 .bool⟩, ⟨0, .o 1 (.sl 47 Y2)⟩, ⟨0, .o 2 (.sl 27 (.sl 3 (.int .i64)))⟩]⟩), (1003, ⟨0, some 32, [⟨0, .o 0 .bool⟩, ⟨0, .o 1 (.sl 47 Y2)⟩, ⟨0, .o 2 (.sl 27 (.sl 3 (.int .i64)))⟩]⟩)]⟩, [(0, ⟨⟨[3, 1, 2], [], [], []⟩, ⟨[(1, (.pt ⟨1001, 0, 0, 0, []⟩)), (2, (.pt ⟨1002, 0, 0, 0, []⟩)), (3, (.pt ⟨1003, 0, 0, 0, []⟩))], [], [(1001, ⟨0, some 25, [⟨0, .o 0 .bool⟩, ⟨0, .o 0 (.sl 42 Y2)⟩, ⟨0, .o 0 (.sl 27 (.sl 3 (.int .i64)))⟩]⟩), (1002, ⟨0, some 32, [⟨0, .o 0 .bool⟩, ⟨0, .o 1 (.sl 47 Y2)⟩, ⟨0, .o 2 (.sl 27 (.sl 3 (.int .i64)))⟩]⟩), (1003, ⟨0, some 32, [⟨0, .o 0 .bool⟩, ⟨0, .o 1 (.sl 47 Y2)⟩, ⟨0, .o 2 (.sl 27 (.sl 3 (.int .i64)))⟩]⟩)]⟩⟩)]⟩)], ⟨⟨[0], [], [], []⟩, ⟨[(0, (.lf Y4))], [], []⟩⟩⟩
noncomputable def avermentlaw13_To_sig : Sig := ⟨⟨[(0, (.lf Y3))], [], []⟩, ⟨[(0, (.lf Y4))], [], []⟩, false⟩
noncomputable def avermentlaw13_To_code : Code := match Try.f11.body with | some c => c | none => .skip
noncomputable def avermentlaw13_To_res : List ResultVar := Try.f11.results.toList
noncomputable def avermentlaw13_To_con (N : Nat) : Con := ⟨Y3, Y4, fun x => avermentlaw13_To N x⟩
noncomputable def avermentlaw13_To_cs (N : Nat) : List (Nat × Con) := [(14, avermentlaw12_To_con N)]
noncomputable def avermentlaw13_To_G4 (N n : Nat) (x : (tupTy [(.int .i64), .bool, (.sl 42 Y2), (.sl 27 (.sl 3 (.int .i64))), .bool, (.sl 47 Y2), (.sl 27 (.sl 3 (.int .i64))), .bool, (.sl 47 Y2), (.sl 27 (.sl 3 (.int .i64)))]).den) (ks : List (L → Option (Bool × (List (Int × (Bool × Int) × (Int × Int) × Int)) × List (List Int)))) : Option (Bool × (List (Int × (Bool × Int) × (Int × Int) × Int)) × List (List Int)) := avermentlaw13_To_l4 N (fun y => kget ks 0 ⟨(.pair .bool (.pair (.sl 42 Y2) (.pair (.sl 27 (.sl 3 (.int .i64))) (.pair .bool (.pair (.sl 47 Y2) (.pair (.sl 27 (.sl 3 (.int .i64))) (.pair .bool (.pair (.sl 47 Y2) (.sl 27 (.sl 3 (.int .i64))))))))))), y⟩) n x.1 x.2.1 x.2.2.1 x.2.2.2.1 x.2.2.2.2.1 x.2.2.2.2.2.1 x.2.2.2.2.2.2.1 x.2.2.2.2.2.2.2.1 x.2.2.2.2.2.2.2.2.1 x.2.2.2.2.2.2.2.2.2
noncomputable def avermentlaw13_To_lh4 : LH := lhAt avermentlaw13_To_H 4
noncomputable def avermentlaw13_To_c4 : Code := codeAt 4 avermentlaw13_To_code
noncomputable def avermentlaw13_To_G8 (N n : Nat) (x : (tupTy [(.int .i64), .bool, (.sl 42 Y2), (.sl 27 (.sl 3 (.int .i64))), .bool, (.sl 47 Y2), (.sl 27 (.sl 3 (.int .i64))), .bool, (.sl 47 Y2), (.sl 27 (.sl 3 (.int .i64)))]).den) (ks : List (L → Option (Bool × (List (Int × (Bool × Int) × (Int × Int) × Int)) × List (List Int)))) : Option (Bool × (List (Int × (Bool × Int) × (Int × Int) × Int)) × List (List Int)) := avermentlaw13_To_l8 N (fun y => kget ks 0 ⟨(.pair .bool (.pair (.sl 47 Y2) (.pair (.sl 27 (.sl 3 (.int .i64))) (.pair .bool (.pair (.sl 47 Y2) (.sl 27 (.sl 3 (.int .i64)))))))), y⟩) n x.1 x.2.1 x.2.2.1 x.2.2.2.1 x.2.2.2.2.1 x.2.2.2.2.2.1 x.2.2.2.2.2.2.1 x.2.2.2.2.2.2.2.1 x.2.2.2.2.2.2.2.2.1 x.2.2.2.2.2.2.2.2.2
noncomputable def avermentlaw13_To_lh8 : LH := lhAt avermentlaw13_To_H 8
noncomputable def avermentlaw13_To_c8 : Code := codeAt 8 avermentlaw13_To_code
noncomputable def avermentlaw13_To_ls (N : Nat) : List (Nat × LoopC (Bool × (List (Int × (Bool × Int) × (Int × Int) × Int)) × List (List Int))) := [(4, ⟨tupTy [(.int .i64), .bool, (.sl 42 Y2), (.sl 27 (.sl 3 (.int .i64))), .bool, (.sl 47 Y2), (.sl 27 (.sl 3 (.int .i64))), .bool, (.sl 47 Y2), (.sl 27 (.sl 3 (.int .i64)))], lenK 1 (avermentlaw13_To_G4 N N)⟩), (8, ⟨tupTy [(.int .i64), .bool, (.sl 42 Y2), (.sl 27 (.sl 3 (.int .i64))), .bool, (.sl 47 Y2), (.sl 27 (.sl 3 (.int .i64))), .bool, (.sl 47 Y2), (.sl 27 (.sl 3 (.int .i64)))], lenK 1 (avermentlaw13_To_G8 N N)⟩)]
noncomputable def avermentlaw13_To_fun (N : Nat) : Fun := ⟨[Y3], avermentlaw13_To_tb, avermentlaw13_To_H, avermentlaw13_To_cs N, Y4, (avermentlaw13_To_con N).F, avermentlaw13_To_code, avermentlaw13_To_res, avermentlaw13_To_ls N⟩
theorem avermentlaw13_To_run (N : Nat) (x : (tupTy [Y3]).den) : (avermentlaw13_To_fun N).run (inSt [Y3] x) = (avermentlaw13_To_con N).F x := by kernel_rfl
theorem avermentlaw13_To_o4 (N : Nat) : RoundOk (ρ := (avermentlaw13_To_fun N).B.den) (avermentlaw13_To_fun N).cs (avermentlaw13_To_fun N).ls (avermentlaw13_To_fun N).tb (avermentlaw13_To_fun N).H (avermentlaw13_To_fun N).fin (avermentlaw13_To_fun N).B avermentlaw13_To_lh4 avermentlaw13_To_c4 [(.int .i64), .bool, (.sl 42 Y2), (.sl 27 (.sl 3 (.int .i64))), .bool, (.sl 47 Y2), (.sl 27 (.sl 3 (.int .i64))), .bool, (.sl 47 Y2), (.sl 27 (.sl 3 (.int .i64)))] [(.pair .bool (.pair (.sl 42 Y2) (.pair (.sl 27 (.sl 3 (.int .i64))) (.pair .bool (.pair (.sl 47 Y2) (.pair (.sl 27 (.sl 3 (.int .i64))) (.pair .bool (.pair (.sl 47 Y2) (.sl 27 (.sl 3 (.int .i64)))))))))))] (avermentlaw13_To_G4 N) :=
  ⟨by kernel_rfl, fun _ _ => by kernel_rfl, fun _ _ _ => by kernel_rfl⟩
theorem avermentlaw13_To_o8 (N : Nat) : RoundOk (ρ := (avermentlaw13_To_fun N).B.den) (avermentlaw13_To_fun N).cs (avermentlaw13_To_fun N).ls (avermentlaw13_To_fun N).tb (avermentlaw13_To_fun N).H (avermentlaw13_To_fun N).fin (avermentlaw13_To_fun N).B avermentlaw13_To_lh8 avermentlaw13_To_c8 [(.int .i64), .bool, (.sl 42 Y2), (.sl 27 (.sl 3 (.int .i64))), .bool, (.sl 47 Y2), (.sl 27 (.sl 3 (.int .i64))), .bool, (.sl 47 Y2), (.sl 27 (.sl 3 (.int .i64)))] [(.pair .bool (.pair (.sl 47 Y2) (.pair (.sl 27 (.sl 3 (.int .i64))) (.pair .bool (.pair (.sl 47 Y2) (.sl 27 (.sl 3 (.int .i64))))))))] (avermentlaw13_To_G8 N) :=
  ⟨by kernel_rfl, fun _ _ => by kernel_rfl, fun _ _ _ => by kernel_rfl⟩
theorem avermentlaw13_To_calls (N : Nat) : CallsOk Try.prog ids (phi Try.prog ids) (avermentlaw13_To_cs N) avermentlaw13_To_tb := fun k sg con h1 h2 => by
  rcases get_consE h2 with ⟨rfl, rfl⟩ | h2
  · obtain rfl := Option.some.inj (h1.symm.trans (show get avermentlaw13_To_tb.sigs 14 = some avermentlaw12_To_sig from by kernel_rfl)); exact avermentlaw12_To_ok N
  exact (get_nilE h2).elim
theorem avermentlaw13_To_loops (N : Nat) : LoopsL (ρ := (avermentlaw13_To_fun N).B.den) (avermentlaw13_To_fun N).cs (avermentlaw13_To_fun N).ls (avermentlaw13_To_fun N).tb (avermentlaw13_To_fun N).H (avermentlaw13_To_fun N).fin (avermentlaw13_To_fun N).B (avermentlaw13_To_fun N).code := fun k lc h => by
  rcases get_consE h with ⟨rfl, rfl⟩ | h
  · exact ⟨_, loopOk (avermentlaw13_To_o4 N)⟩
  rcases get_consE h with ⟨rfl, rfl⟩ | h
  · exact ⟨_, loopOk (avermentlaw13_To_o8 N)⟩
  exact (get_nilE h).elim
theorem avermentlaw13_To_ok (N : Nat) : FnOk Try.prog ids (phi Try.prog ids) 11 avermentlaw13_To_sig (avermentlaw13_To_con N) :=
  fnOk2 (q := avermentlaw13_To_fun N) mix Try.func11 (by kernel_rfl) (by kernel_rfl) (by kernel_rfl) (by kernel_rfl) (by kernel_rfl) (by kernel_rfl) (by kernel_rfl) (tt_ok _ rfl) (fnsOk_of (by kernel_rfl)) (avermentlaw13_To_calls N) (avermentlaw13_To_loops N) (avermentlaw13_To_run N)
noncomputable def avermentref12_Right_tb : Tabs := ⟨TT, [], []⟩
noncomputable def avermentref12_Right_H : Hints := ⟨[], [], [], ⟨⟨[0], [], [], []⟩, ⟨[(0, (.lf .bool))], [], []⟩⟩⟩
noncomputable def avermentref12_Right_sig : Sig := ⟨⟨[(0, (.lf Y2))], [], []⟩, ⟨[(0, (.lf .bool))], [], []⟩, false⟩
noncomputable def avermentref12_Right_code : Code := match Try.f33.body with | some c => c | none => .skip
noncomputable def avermentref12_Right_res : List ResultVar := Try.f33.results.toList
noncomputable def avermentref12_Right_con (N : Nat) : Con := ⟨Y2, .bool, fun x => avermentref12_Right N x⟩
noncomputable def avermentref12_Right_cs (N : Nat) : List (Nat × Con) := []
noncomputable def avermentref12_Right_ls (N : Nat) : List (Nat × LoopC (Bool)) := []
noncomputable def avermentref12_Right_fun (N : Nat) : Fun := ⟨[Y2], avermentref12_Right_tb, avermentref12_Right_H, avermentref12_Right_cs N, .bool, (avermentref12_Right_con N).F, avermentref12_Right_code, avermentref12_Right_res, avermentref12_Right_ls N⟩
theorem avermentref12_Right_run (N : Nat) (x : (tupTy [Y2]).den) : (avermentref12_Right_fun N).run (inSt [Y2] x) = (avermentref12_Right_con N).F x := by kernel_rfl
theorem avermentref12_Right_calls (N : Nat) : CallsOk Try.prog ids (phi Try.prog ids) (avermentref12_Right_cs N) avermentref12_Right_tb := fun k sg con h1 h2 => by
  exact (get_nilE h2).elim
theorem avermentref12_Right_loops (N : Nat) : LoopsL (ρ := (avermentref12_Right_fun N).B.den) (avermentref12_Right_fun N).cs (avermentref12_Right_fun N).ls (avermentref12_Right_fun N).tb (avermentref12_Right_fun N).H (avermentref12_Right_fun N).fin (avermentref12_Right_fun N).B (avermentref12_Right_fun N).code := fun k lc h => by
  exact (get_nilE h).elim
theorem avermentref12_Right_ok (N : Nat) : FnOk Try.prog ids (phi Try.prog ids) 33 avermentref12_Right_sig (avermentref12_Right_con N) :=
  fnOk2 (q := avermentref12_Right_fun N) mix Try.func33 (by kernel_rfl) (by kernel_rfl) (by kernel_rfl) (by kernel_rfl) (by kernel_rfl) (by kernel_rfl) (by kernel_rfl) (tt_ok _ rfl) (fnsOk_of (by kernel_rfl)) (avermentref12_Right_calls N) (avermentref12_Right_loops N) (avermentref12_Right_run N)
noncomputable def avermentref03_Right_tb : Tabs := ⟨TT, [], []⟩
noncomputable def avermentref03_Right_H : Hints := ⟨[], [], [(5, ⟨⟨[5, 1, 0], [], [], []⟩, ⟨[(0, (.lf (.int .i64))), (1, (.lf (.sl 3 (.int .i64)))), (5, (.lf (.int .i64)))], [], []⟩, [(0, ⟨⟨[], [], [], []⟩, ⟨[], [], []⟩⟩)]⟩)], ⟨⟨[0], [], [], []⟩, ⟨[(0, (.lf .bool))], [], []⟩⟩⟩
noncomputable def avermentref03_Right_sig : Sig := ⟨⟨[(0, (.lf (.int .i64))), (1, (.lf (.sl 3 (.int .i64))))], [], []⟩, ⟨[(0, (.lf .bool))], [], []⟩, false⟩
noncomputable def avermentref03_Right_code : Code := match Try.f34.body with | some c => c | none => .skip
noncomputable def avermentref03_Right_res : List ResultVar := Try.f34.results.toList
noncomputable def avermentref03_Right_con (N : Nat) : Con := ⟨(.pair (.int .i64) (.sl 3 (.int .i64))), .bool, fun x => avermentref03_Right N x.1 x.2⟩
noncomputable def avermentref03_Right_cs (N : Nat) : List (Nat × Con) := []
noncomputable def avermentref03_Right_G5 (N n : Nat) (x : (tupTy [(.int .i64), (.sl 3 (.int .i64)), (.int .i64)]).den) (ks : List (L → Option (Bool))) : Option (Bool) := avermentref03_Right_l5 N (fun y => kget ks 0 ⟨.unit, y⟩) (fun y => kget ks 1 ⟨.bool, y⟩) n x.1 x.2.1 x.2.2
noncomputable def avermentref03_Right_lh5 : LH := lhAt avermentref03_Right_H 5
noncomputable def avermentref03_Right_c5 : Code := codeAt 5 avermentref03_Right_code
noncomputable def avermentref03_Right_ls (N : Nat) : List (Nat × LoopC (Bool)) := [(5, ⟨tupTy [(.int .i64), (.sl 3 (.int .i64)), (.int .i64)], lenK 2 (avermentref03_Right_G5 N N)⟩)]
noncomputable def avermentref03_Right_fun (N : Nat) : Fun := ⟨[(.int .i64), (.sl 3 (.int .i64))], avermentref03_Right_tb, avermentref03_Right_H, avermentref03_Right_cs N, .bool, (avermentref03_Right_con N).F, avermentref03_Right_code, avermentref03_Right_res, avermentref03_Right_ls N⟩
theorem avermentref03_Right_run (N : Nat) (x : (tupTy [(.int .i64), (.sl 3 (.int .i64))]).den) : (avermentref03_Right_fun N).run (inSt [(.int .i64), (.sl 3 (.int .i64))] x) = (avermentref03_Right_con N).F x := by kernel_rfl
theorem avermentref03_Right_o5 (N : Nat) : RoundOk (ρ := (avermentref03_Right_fun N).B.den) (avermentref03_Right_fun N).cs (avermentref03_Right_fun N).ls (avermentref03_Right_fun N).tb (avermentref03_Right_fun N).H (avermentref03_Right_fun N).fin (avermentref03_Right_fun N).B avermentref03_Right_lh5 avermentref03_Right_c5 [(.int .i64), (.sl 3 (.int .i64)), (.int .i64)] [.unit, .bool] (avermentref03_Right_G5 N) :=
  ⟨by kernel_rfl, fun _ _ => by kernel_rfl, fun _ _ _ => by kernel_rfl⟩
theorem avermentref03_Right_calls (N : Nat) : CallsOk Try.prog ids (phi Try.prog ids) (avermentref03_Right_cs N) avermentref03_Right_tb := fun k sg con h1 h2 => by
  exact (get_nilE h2).elim
theorem avermentref03_Right_loops (N : Nat) : LoopsL (ρ := (avermentref03_Right_fun N).B.den) (avermentref03_Right_fun N).cs (avermentref03_Right_fun N).ls (avermentref03_Right_fun N).tb (avermentref03_Right_fun N).H (avermentref03_Right_fun N).fin (avermentref03_Right_fun N).B (avermentref03_Right_fun N).code := fun k lc h => by
  rcases get_consE h with ⟨rfl, rfl⟩ | h
  · exact ⟨_, loopOk (avermentref03_Right_o5 N)⟩
  exact (get_nilE h).elim
theorem avermentref03_Right_ok (N : Nat) : FnOk Try.prog ids (phi Try.prog ids) 34 avermentref03_Right_sig (avermentref03_Right_con N) :=
  fnOk2 (q := avermentref03_Right_fun N) mix Try.func34 (by kernel_rfl) (by kernel_rfl) (by kernel_rfl) (by kernel_rfl) (by kernel_rfl) (by kernel_rfl) (by kernel_rfl) (tt_ok _ rfl) (fnsOk_of (by kernel_rfl)) (avermentref03_Right_calls N) (avermentref03_Right_loops N) (avermentref03_Right_run N)
noncomputable def avermentref13_Right_tb : Tabs := ⟨TT, [(33, avermentref12_Right_sig), (34, avermentref03_Right_sig)], []⟩
noncomputable def avermentref13_Right_H : Hints := ⟨[], [], [(7, ⟨⟨[7, 3, 2, 1], [], [], []⟩, ⟨[(1, (.lf (.int .i64))), (2, (.lf (.int .i64))), (3, (.pt ⟨1003, 0, 0, 0, []⟩)), (7, (.lf (.int .i64)))], [], [(1003, ⟨0, some 25, [⟨0, .o 0 .bool⟩, ⟨0, .o 0 (.sl 42 Y2)⟩, ⟨0, .o 0 (.sl 27 (.sl 3 (.int .i64)))⟩]⟩)]⟩, [(0, ⟨⟨[], [], [], []⟩, ⟨[], [], []⟩⟩)]⟩)], ⟨⟨[0], [], [], []⟩, ⟨[(0, (.lf .bool))], [], []⟩⟩⟩
noncomputable def avermentref13_Right_sig : Sig := ⟨⟨[(0, (.lf Y3)), (1, (.lf (.int .i64))), (2, (.lf (.int .i64)))], [], []⟩, ⟨[(0, (.lf .bool))], [], []⟩, false⟩
noncomputable def avermentref13_Right_code : Code := match Try.f12.body with | some c => c | none => .skip
noncomputable def avermentref13_Right_res : List ResultVar := Try.f12.results.toList
noncomputable def avermentref13_Right_con (N : Nat) : Con := ⟨(.pair Y3 (.pair (.int .i64) (.int .i64))), .bool, fun x => avermentref13_Right N x.1 x.2.1 x.2.2⟩
noncomputable def avermentref13_Right_cs (N : Nat) : List (Nat × Con) := [(33, avermentref12_Right_con N), (34, avermentref03_Right_con N)]
noncomputable def avermentref13_Right_G7 (N n : Nat) (x : (tupTy [(.int .i64), (.int .i64), (.int .i64), .bool, (.sl 42 Y2), (.sl 27 (.sl 3 (.int .i64)))]).den) (ks : List (L → Option (Bool))) : Option (Bool) := avermentref13_Right_l7 N (fun y => kget ks 0 ⟨.unit, y⟩) (fun y => kget ks 1 ⟨.bool, y⟩) n x.1 x.2.1 x.2.2.1 x.2.2.2.1 x.2.2.2.2.1 x.2.2.2.2.2
noncomputable def avermentref13_Right_lh7 : LH := lhAt avermentref13_Right_H 7
noncomputable def avermentref13_Right_c7 : Code := codeAt 7 avermentref13_Right_code
noncomputable def avermentref13_Right_ls (N : Nat) : List (Nat × LoopC (Bool)) := [(7, ⟨tupTy [(.int .i64), (.int .i64), (.int .i64), .bool, (.sl 42 Y2), (.sl 27 (.sl 3 (.int .i64)))], lenK 2 (avermentref13_Right_G7 N N)⟩)]
noncomputable def avermentref13_Right_fun (N : Nat) : Fun := ⟨[Y3, (.int .i64), (.int .i64)], avermentref13_Right_tb, avermentref13_Right_H, avermentref13_Right_cs N, .bool, (avermentref13_Right_con N).F, avermentref13_Right_code, avermentref13_Right_res, avermentref13_Right_ls N⟩
theorem avermentref13_Right_run (N : Nat) (x : (tupTy [Y3, (.int .i64), (.int .i64)]).den) : (avermentref13_Right_fun N).run (inSt [Y3, (.int .i64), (.int .i64)] x) = (avermentref13_Right_con N).F x := by kernel_rfl
theorem avermentref13_Right_o7 (N : Nat) : RoundOk (ρ := (avermentref13_Right_fun N).B.den) (avermentref13_Right_fun N).cs (avermentref13_Right_fun N).ls (avermentref13_Right_fun N).tb (avermentref13_Right_fun N).H (avermentref13_Right_fun N).fin (avermentref13_Right_fun N).B avermentref13_Right_lh7 avermentref13_Right_c7 [(.int .i64), (.int .i64), (.int .i64), .bool, (.sl 42 Y2), (.sl 27 (.sl 3 (.int .i64)))] [.unit, .bool] (avermentref13_Right_G7 N) :=
  ⟨by kernel_rfl, fun _ _ => by kernel_rfl, fun _ _ _ => by kernel_rfl⟩
theorem avermentref13_Right_calls (N : Nat) : CallsOk Try.prog ids (phi Try.prog ids) (avermentref13_Right_cs N) avermentref13_Right_tb := fun k sg con h1 h2 => by
  rcases get_consE h2 with ⟨rfl, rfl⟩ | h2
  · obtain rfl := Option.some.inj (h1.symm.trans (show get avermentref13_Right_tb.sigs 33 = some avermentref12_Right_sig from by kernel_rfl)); exact avermentref12_Right_ok N
  rcases get_consE h2 with ⟨rfl, rfl⟩ | h2
  · obtain rfl := Option.some.inj (h1.symm.trans (show get avermentref13_Right_tb.sigs 34 = some avermentref03_Right_sig from by kernel_rfl)); exact avermentref03_Right_ok N
  exact (get_nilE h2).elim
theorem avermentref13_Right_loops (N : Nat) : LoopsL (ρ := (avermentref13_Right_fun N).B.den) (avermentref13_Right_fun N).cs (avermentref13_Right_fun N).ls (avermentref13_Right_fun N).tb (avermentref13_Right_fun N).H (avermentref13_Right_fun N).fin (avermentref13_Right_fun N).B (avermentref13_Right_fun N).code := fun k lc h => by
  rcases get_consE h with ⟨rfl, rfl⟩ | h
  · exact ⟨_, loopOk (avermentref13_Right_o7 N)⟩
  exact (get_nilE h).elim
theorem avermentref13_Right_ok (N : Nat) : FnOk Try.prog ids (phi Try.prog ids) 12 avermentref13_Right_sig (avermentref13_Right_con N) :=
  fnOk2 (q := avermentref13_Right_fun N) mix Try.func12 (by kernel_rfl) (by kernel_rfl) (by kernel_rfl) (by kernel_rfl) (by kernel_rfl) (by kernel_rfl) (by kernel_rfl) (tt_ok _ rfl) (fnsOk_of (by kernel_rfl)) (avermentref13_Right_calls N) (avermentref13_Right_loops N) (avermentref13_Right_run N)
noncomputable def avermentlaw13_StateRight_tb : Tabs := ⟨TT, [(8, avermentlaw13_told_sig), (9, avermentlaw13_fix_sig), (11, avermentlaw13_To_sig), (10, state_Right_sig), (12, avermentref13_Right_sig)], []⟩
noncomputable def avermentlaw13_StateRight_H : Hints := ⟨[], [], [(5, ⟨⟨[7, 3, 2, 1], [], [], []⟩, ⟨[(1, (.lf (.int .i64))), (2, (.lf (.int .i64))), (3, (.pt ⟨1003, 0, 0, 0, []⟩)), (7, (.lf (.int .i64)))], [], [(1003, ⟨0, some 25, [⟨0, .o 0 .bool⟩, ⟨0, .o 0 (.sl 42 Y2)⟩, ⟨0, .o 0 (.sl 27 (.sl 3 (.int .i64)))⟩]⟩)]⟩, [(0, ⟨⟨[2, 1, 3], [], [], []⟩, ⟨[(1, (.lf (.int .i64))), (2, (.lf (.int .i64))), (3, (.pt ⟨1003, 0, 0, 0, []⟩))], [], [(1003, ⟨0, some 25, [⟨0, .o 0 .bool⟩, ⟨0, .o 0 (.sl 42 Y2)⟩, ⟨0, .o 0 (.sl 27 (.sl 3 (.int .i64)))⟩]⟩)]⟩⟩)]⟩)], ⟨⟨[0], [], [], []⟩, ⟨[(0, (.lf .bool))], [], []⟩⟩⟩
noncomputable def avermentlaw13_StateRight_sig : Sig := ⟨⟨[(0, (.lf Y3)), (1, (.lf (.int .i64))), (2, (.lf (.int .i64)))], [], []⟩, ⟨[(0, (.lf .bool))], [], []⟩, false⟩
noncomputable def avermentlaw13_StateRight_code : Code := match Try.f3.body with | some c => c | none => .skip
noncomputable def avermentlaw13_StateRight_res : List ResultVar := Try.f3.results.toList
noncomputable def avermentlaw13_StateRight_con (N : Nat) : Con := ⟨(.pair Y3 (.pair (.int .i64) (.int .i64))), .bool, fun x => avermentlaw13_StateRight N x.1 x.2.1 x.2.2⟩
noncomputable def avermentlaw13_StateRight_cs (N : Nat) : List (Nat × Con) := [(8, avermentlaw13_told_con N), (9, avermentlaw13_fix_con N), (11, avermentlaw13_To_con N), (10, state_Right_con N), (12, avermentref13_Right_con N)]
noncomputable def avermentlaw13_StateRight_G5 (N n : Nat) (x : (tupTy [(.int .i64), (.int .i64), (.int .i64), .bool, (.sl 42 Y2), (.sl 27 (.sl 3 (.int .i64)))]).den) (ks : List (L → Option (Bool))) : Option (Bool) := avermentlaw13_StateRight_l5 N (fun y => kget ks 0 ⟨(.pair (.int .i64) (.pair (.int .i64) (.pair .bool (.pair (.sl 42 Y2) (.sl 27 (.sl 3 (.int .i64))))))), y⟩) (fun y => kget ks 1 ⟨.bool, y⟩) n x.1 x.2.1 x.2.2.1 x.2.2.2.1 x.2.2.2.2.1 x.2.2.2.2.2
noncomputable def avermentlaw13_StateRight_lh5 : LH := lhAt avermentlaw13_StateRight_H 5
noncomputable def avermentlaw13_StateRight_c5 : Code := codeAt 5 avermentlaw13_StateRight_code
noncomputable def avermentlaw13_StateRight_ls (N : Nat) : List (Nat × LoopC (Bool)) := [(5, ⟨tupTy [(.int .i64), (.int .i64), (.int .i64), .bool, (.sl 42 Y2), (.sl 27 (.sl 3 (.int .i64)))], lenK 2 (avermentlaw13_StateRight_G5 N N)⟩)]
noncomputable def avermentlaw13_StateRight_fun (N : Nat) : Fun := ⟨[Y3, (.int .i64), (.int .i64)], avermentlaw13_StateRight_tb, avermentlaw13_StateRight_H, avermentlaw13_StateRight_cs N, .bool, (avermentlaw13_StateRight_con N).F, avermentlaw13_StateRight_code, avermentlaw13_StateRight_res, avermentlaw13_StateRight_ls N⟩
theorem avermentlaw13_StateRight_run (N : Nat) (x : (tupTy [Y3, (.int .i64), (.int .i64)]).den) : (avermentlaw13_StateRight_fun N).run (inSt [Y3, (.int .i64), (.int .i64)] x) = (avermentlaw13_StateRight_con N).F x := by kernel_rfl
theorem avermentlaw13_StateRight_o5 (N : Nat) : RoundOk (ρ := (avermentlaw13_StateRight_fun N).B.den) (avermentlaw13_StateRight_fun N).cs (avermentlaw13_StateRight_fun N).ls (avermentlaw13_StateRight_fun N).tb (avermentlaw13_StateRight_fun N).H (avermentlaw13_StateRight_fun N).fin (avermentlaw13_StateRight_fun N).B avermentlaw13_StateRight_lh5 avermentlaw13_StateRight_c5 [(.int .i64), (.int .i64), (.int .i64), .bool, (.sl 42 Y2), (.sl 27 (.sl 3 (.int .i64)))] [(.pair (.int .i64) (.pair (.int .i64) (.pair .bool (.pair (.sl 42 Y2) (.sl 27 (.sl 3 (.int .i64))))))), .bool] (avermentlaw13_StateRight_G5 N) :=
  ⟨by kernel_rfl, fun _ _ => by kernel_rfl, fun _ _ _ => by kernel_rfl⟩
theorem avermentlaw13_StateRight_calls (N : Nat) : CallsOk Try.prog ids (phi Try.prog ids) (avermentlaw13_StateRight_cs N) avermentlaw13_StateRight_tb := fun k sg con h1 h2 => by
  rcases get_consE h2 with ⟨rfl, rfl⟩ | h2
  · obtain rfl := Option.some.inj (h1.symm.trans (show get avermentlaw13_StateRight_tb.sigs 8 = some avermentlaw13_told_sig from by kernel_rfl)); exact avermentlaw13_told_ok N
  rcases get_consE h2 with ⟨rfl, rfl⟩ | h2
  · obtain rfl := Option.some.inj (h1.symm.trans (show get avermentlaw13_StateRight_tb.sigs 9 = some avermentlaw13_fix_sig from by kernel_rfl)); exact avermentlaw13_fix_ok N
  rcases get_consE h2 with ⟨rfl, rfl⟩ | h2
  · obtain rfl := Option.some.inj (h1.symm.trans (show get avermentlaw13_StateRight_tb.sigs 11 = some avermentlaw13_To_sig from by kernel_rfl)); exact avermentlaw13_To_ok N
  rcases get_consE h2 with ⟨rfl, rfl⟩ | h2
  · obtain rfl := Option.some.inj (h1.symm.trans (show get avermentlaw13_StateRight_tb.sigs 10 = some state_Right_sig from by kernel_rfl)); exact state_Right_ok N
  rcases get_consE h2 with ⟨rfl, rfl⟩ | h2
  · obtain rfl := Option.some.inj (h1.symm.trans (show get avermentlaw13_StateRight_tb.sigs 12 = some avermentref13_Right_sig from by kernel_rfl)); exact avermentref13_Right_ok N
  exact (get_nilE h2).elim
theorem avermentlaw13_StateRight_loops (N : Nat) : LoopsL (ρ := (avermentlaw13_StateRight_fun N).B.den) (avermentlaw13_StateRight_fun N).cs (avermentlaw13_StateRight_fun N).ls (avermentlaw13_StateRight_fun N).tb (avermentlaw13_StateRight_fun N).H (avermentlaw13_StateRight_fun N).fin (avermentlaw13_StateRight_fun N).B (avermentlaw13_StateRight_fun N).code := fun k lc h => by
  rcases get_consE h with ⟨rfl, rfl⟩ | h
  · exact ⟨_, loopOk (avermentlaw13_StateRight_o5 N)⟩
  exact (get_nilE h).elim
theorem avermentlaw13_StateRight_ok (N : Nat) : FnOk Try.prog ids (phi Try.prog ids) 3 avermentlaw13_StateRight_sig (avermentlaw13_StateRight_con N) :=
  fnOk2 (q := avermentlaw13_StateRight_fun N) mix Try.func3 (by kernel_rfl) (by kernel_rfl) (by kernel_rfl) (by kernel_rfl) (by kernel_rfl) (by kernel_rfl) (by kernel_rfl) (tt_ok _ rfl) (fnsOk_of (by kernel_rfl)) (avermentlaw13_StateRight_calls N) (avermentlaw13_StateRight_loops N) (avermentlaw13_StateRight_run N)
end Go.Proofs.Ytglcpndffekmhaa
namespace Go.Y
def Wf (by_ : TypeId → Nat) : (A : Ty) → A.den → Prop
  | .unit, _ => True
  | .bool, _ => True
  | .int k, n => (Lit.int k n).wf = true
  | .str, s => (s : List UInt8).length ≤ reachBytes
  | .pair a b, x => Wf by_ a x.1 ∧ Wf by_ b x.2
  | .st f, x => Wf by_ f x
  | .sl e a, xs => (xs : List a.den).length * by_ e ≤ reachBytes ∧ ∀ x ∈ (xs : List a.den), Wf by_ a x
  | .ptr _ _, _ => False
  | .err, _ => False
  | .fn _ _, _ => False
theorem wf_i64 {n : Int} (h : (Lit.int .i64 n).wf = true) : -9223372036854775808 ≤ n ∧ n ≤ 9223372036854775807 := by
  simpa [Lit.wf, IntKind.min, IntKind.max, IntKind.signed, IntKind.bits] using h
theorem wf_u8 {n : Int} (h : (Lit.int .u8 n).wf = true) : 0 ≤ n ∧ n ≤ 255 := by
  simpa [Lit.wf, IntKind.min, IntKind.max, IntKind.signed, IntKind.bits] using h
theorem wf_u64 {n : Int} (h : (Lit.int .u64 n).wf = true) : 0 ≤ n ∧ n ≤ 18446744073709551615 := by
  simpa [Lit.wf, IntKind.min, IntKind.max, IntKind.signed, IntKind.bits] using h
end Go.Y
namespace Go.Y
open Go.Eng (T RepT RepM SRep Kept Base G SameOn VRep Split Live Free kn)
variable {P : Program} {I : Ids} {φ : FnP}
def rdT (P : Program) : Nat → TypeId → Ty → Bool
  | 0, _, _ => false
  | n + 1, t, A => match A with
    | .bool => match P.underlying t with | some .bool => true | _ => false
    | .int k => match P.underlying t with | some (.int k') => decide (k' = k) | _ => false
    | .str => match P.underlying t with | some .string => true | _ => false
    | .sl e a => match P.underlying t with
      | some (.slice e') => Nat.beq e' e && (rdT P n e a && (Nat.beq (P.cellsOf e) a.flat.length && (Eng.aggOf P e == a.isAgg && !a.flat.isEmpty)))
      | _ => false
    | .st f => match P.underlying t with
      | some (.struct fs) => rowF P (rdT P n) 0 fs.toList f && Nat.beq (P.cellsOf t) f.flat.length
      | _ => false
    | _ => false
def Reps (P : Program) (w : World) (F : Nat → Prop) (ts : List T) (us : List Value) : Prop := ts.length = us.length ∧ ∀ (j : Nat) t, ts[j]? = some t → ∃ u, us[j]? = some u ∧ RepT P w F t u
theorem reps_append {w : World} {F : Nat → Prop} {a b : List T} {us vs : List Value} (h1 : Reps P w F a us) (h2 : Reps P w F b vs) : Reps P w F (a ++ b) (us ++ vs) := by
  refine ⟨by simp [h1.1, h2.1], fun j t hj => ?_⟩
  by_cases hl : j < a.length
  · rw [List.getElem?_append_left hl] at hj
    obtain ⟨u, hu, hr⟩ := h1.2 j t hj
    exact ⟨u, by rw [List.getElem?_append_left (by rw [← h1.1]; exact hl)]; exact hu, hr⟩
  · rw [List.getElem?_append_right (by omega)] at hj
    obtain ⟨u, hu, hr⟩ := h2.2 _ t hj
    exact ⟨u, by rw [List.getElem?_append_right (by rw [← h1.1]; omega), ← h1.1]; exact hu, hr⟩
theorem reps_one {w : World} {F : Nat → Prop} {t : T} {u : Value} (h : RepT P w F t u) : Reps P w F [t] [u] := by
  refine ⟨rfl, fun j s hj => ?_⟩
  cases j with
  | zero => simp only [List.getElem?_cons_zero, Option.some.injEq] at hj; subst hj; exact ⟨u, rfl, h⟩
  | succ j => simp at hj
section
variable {H : Type} {enc : TypeId × Value → H} {w : World} {spare : Nat → Bool} {held : Bool}
def RdOk (enc : TypeId × Value → H) (P : Program) (I : Ids) (φ : FnP) (w : World) (spare : Nat → Bool) (held : Bool) (n : Nat) : Prop :=
  ∀ t A, rdT P n t A = true → ∀ fuel cs d ps, DataW.trod enc P w 0 spare held fuel t cs = some (d, ps) → (∀ m ∈ d.weights P t, m ≤ reachBytes) →
    ∃ x : A.den, Wf P.bytesOf A x ∧ Reps P w (fun b => b < w.heap.size) (trc I φ A x) cs
theorem weights_each {ts : List TypeId} {ds : List (DataW H)} {M : Nat} (h : ∀ m ∈ DataW.weightsEach P ts ds, m ≤ M) {j : Nat} {t : TypeId} {d : DataW H} (ht : ts[j]? = some t) (hd : ds[j]? = some d) : ∀ m ∈ d.weights P t, m ≤ M :=
  fun m hm => h m (DataW.weights_mem_each ht hd m hm)
theorem weights_all_mem {e : TypeId} : ∀ {ds : List (DataW H)} {d : DataW H}, d ∈ ds → ∀ m ∈ d.weights P e, m ∈ DataW.weightsAll P e ds
  | [], d, hd, _, _ => by simp at hd
  | d0 :: r, d, hd, m, hm => by
    simp only [DataW.weightsAll, List.mem_append]
    rcases List.mem_cons.1 hd with rfl | hd
    · exact .inl hm
    · exact .inr (weights_all_mem hd m hm)
theorem rd_row {n fuel : Nat} (IH : RdOk enc P I φ w spare held n) {cs : List Value} :
    ∀ (fs : List Field) (f : Ty) (off : Nat) (xs : List (DataW H × List MemPlace)), rowF P (rdT P n) off fs f = true → xs.length = fs.length →
      (∀ (i : Nat) q, fs[i]? = some q → DataW.trod enc P w 0 spare held fuel q.type ((cs.drop q.offset).take (P.cellsOf q.type)) = xs[i]?) →
      (∀ m ∈ DataW.weightsEach P (fs.map (·.type)) (xs.map (·.1)), m ≤ reachBytes) → cs.length = off + f.flat.length →
      ∃ x : f.den, Wf P.bytesOf f x ∧ Reps P w (fun b => b < w.heap.size) (trc I φ f x) (cs.drop off) := by
  have hd1 : ∀ (q : Field) (a : Ty) (off : Nat) (y : DataW H × List MemPlace), hdF P (rdT P n) q a off = true → DataW.trod enc P w 0 spare held fuel q.type ((cs.drop q.offset).take (P.cellsOf q.type)) = some y →
      (∀ m ∈ y.1.weights P q.type, m ≤ reachBytes) → ∃ x : a.den, Wf P.bytesOf a x ∧ Reps P w (fun b => b < w.heap.size) (trc I φ a x) ((cs.drop off).take a.flat.length) := by
    intro q a off y h hy hm
    obtain ⟨h1, h2, h3, _, _⟩ := hdF_facts h
    obtain ⟨x, hx1, hx2⟩ := IH q.type a h2 fuel _ y.1 y.2 hy hm
    rw [h1, h3] at hx2
    exact ⟨x, hx1, hx2⟩
  intro fs
  induction fs with
  | nil =>
    intro f off xs h _ _ _ hl
    cases f <;> first
      | (exact ⟨(), trivial, by simp only [Ty.flat, List.length_nil] at hl; rw [List.drop_eq_nil_of_le (by omega)]; exact ⟨rfl, fun j t hj => by simp [trc] at hj⟩⟩)
      | (simp only [rowF] at h; cases h)
  | cons q r ih =>
    intro f off xs h hlen hx hm hl
    obtain ⟨y, ys, rfl⟩ : ∃ y ys, xs = y :: ys := by
      cases xs with
      | nil => simp at hlen
      | cons y ys => exact ⟨y, ys, rfl⟩
    have hy := hx 0 q rfl
    simp only [List.getElem?_cons_zero] at hy
    have hmy : ∀ m ∈ y.1.weights P q.type, m ≤ reachBytes := weights_each hm (j := 0) rfl rfl
    cases r with
    | nil =>
      simp only [rowF, Bool.and_eq_true] at h
      obtain ⟨x, h1, h2⟩ := hd1 q f off y h.2 hy hmy
      refine ⟨x, h1, ?_⟩
      rwa [List.take_of_length_le (by rw [List.length_drop]; omega)] at h2
    | cons q2 r2 =>
      cases f with
      | pair a b =>
        simp only [rowF, Bool.and_eq_true] at h
        simp only [Ty.flat, List.length_append] at hl
        obtain ⟨x, h1, h2⟩ := hd1 q a off y h.1 hy hmy
        obtain ⟨z, h3, h4⟩ := ih b (off + a.flat.length) ys h.2 (by simpa using hlen) (fun i q' hq => by have := hx (i + 1) q' (by simpa using hq); simpa using this)
          (fun m hm' => hm m (by simp only [List.map_cons, DataW.weightsEach, List.mem_append]; exact .inr (by simpa using hm'))) (by omega)
        refine ⟨(x, z), ⟨h1, h3⟩, ?_⟩
        have := reps_append h2 h4
        rw [← List.drop_drop, List.take_append_drop] at this
        exact this
      | _ => simp only [rowF] at h; cases h
theorem rd_ok : ∀ n, RdOk (H := H) enc P I φ w spare held n
  | 0 => fun t A h => by simp [rdT] at h
  | n + 1 => by
    intro t A h fuel cs d ps htr hm
    unfold rdT at h
    cases A with
    | bool =>
      simp only at h
      split at h
      · rename_i hu
        obtain ⟨b, rfl, _⟩ := DataW.trod_bool hu htr
        exact ⟨b, trivial, reps_one (.b b)⟩
      · cases h
    | int k =>
      simp only at h
      split at h
      · rename_i k' hu
        have hk : k' = k := of_decide_eq_true h
        subst hk
        obtain ⟨m, rfl, _, hw⟩ := DataW.trod_int hu htr
        exact ⟨m, hw, reps_one (.i k' m)⟩
      · cases h
    | str =>
      simp only at h
      split at h
      · rename_i hu
        obtain ⟨s, rfl, hx, hs⟩ := DataW.trod_string hu htr
        simp only [Prod.mk.injEq] at hx
        refine ⟨s.data.toList, ?_, ?_⟩
        · rw [hx.1] at hm
          have := hm s.data.toList.length (by simp [DataW.weights])
          exact this
        · have : (⟨s.data.toList.toArray⟩ : ByteArray) = s := by
            apply ByteArray.ext; simp
          show Reps P w _ [T.s ⟨s.data.toList.toArray⟩] _
          rw [this]
          exact reps_one (.s s)
      · cases h
    | st f =>
      simp only at h
      split at h
      · rename_i fs hu
        simp only [Bool.and_eq_true] at h
        obtain ⟨xs, m, rfl, hx, hl, hlen, hel⟩ := DataW.trod_struct hu htr
        have hf := (beq_iff _ _).1 h.2
        simp only [Prod.mk.injEq] at hx
        rw [hx.1] at hm
        obtain ⟨x, h1, h2⟩ := rd_row (rd_ok n) fs.toList f 0 xs h.1 (by rw [hlen]; simp) (fun i q hq => hel i q (by simpa using hq)) (fun k hk => hm k (by simp only [DataW.weights, hu]; exact hk)) (by rw [hl, hf]; simp)
        rw [List.drop_zero] at h2
        exact ⟨x, h1, h2⟩
      · cases h
    | sl e a =>
      simp only at h
      split at h
      · rename_i e' hu
        simp only [Bool.and_eq_true] at h
        obtain ⟨h1, h2, h3, h4, h5⟩ := h
        have h1 := (beq_iff _ _).1 h1
        subst h1
        have h3 := (beq_iff _ _).1 h3
        have h4 : Eng.aggOf P e' = a.isAgg := by simpa using h4
        have hpos : 0 < a.flat.length := by
          cases hf : a.flat with
          | nil => rw [hf] at h5; cases h5
          | cons => simp
        rcases DataW.trod_slice hu htr with ⟨rfl, _⟩ | ⟨ad, len, cap, elems, rest, m, rfl, rfl, hx, _, hlc, _, hlen, hel, _, _⟩
        · exact ⟨[], ⟨by simp, fun x hx => by simp at hx⟩, reps_one (.nsl e' false)⟩
        · simp only [Prod.mk.injEq] at hx
          rw [hx.1] at hm
          simp only [DataW.weights, hu, List.mem_cons, List.mem_append] at hm
          have hbytes := hm _ (.inl rfl)
          rw [List.length_map, List.length_map] at hbytes
          have each : ∀ i, i < len → ∃ x : a.den, Wf P.bytesOf a x ∧ ∃ us, w.cells? 0 (ad.add (i * P.cellsOf e')) (P.cellsOf e') = some us ∧ Reps P w (fun b => b < w.heap.size) (trc I φ a x) us := by
            intro i hi
            have hi' : i < elems.length := by omega
            have he := hel i hi
            rw [List.getElem?_eq_getElem hi'] at he
            obtain ⟨us, hus, htr'⟩ := Option.bind_eq_some_iff.1 he
            obtain ⟨x, hx1, hx2⟩ := rd_ok n e' a h2 m us elems[i].1 elems[i].2 htr' (fun k hk => hm k (.inr (.inl (weights_all_mem (List.mem_map.2 ⟨elems[i], List.getElem_mem hi', rfl⟩) k hk))))
            exact ⟨x, hx1, us, hus, hx2⟩
          obtain ⟨xs, hxl, hxs⟩ : ∃ xs : List a.den, xs.length = len ∧ ∀ i x, xs[i]? = some x → Wf P.bytesOf a x ∧ ∃ us, w.cells? 0 (ad.add (i * P.cellsOf e')) (P.cellsOf e') = some us ∧ Reps P w (fun b => b < w.heap.size) (trc I φ a x) us := by
            have : ∀ k, k ≤ len → ∃ xs : List a.den, xs.length = k ∧ ∀ i x, xs[i]? = some x → Wf P.bytesOf a x ∧ ∃ us, w.cells? 0 (ad.add (i * P.cellsOf e')) (P.cellsOf e') = some us ∧ Reps P w (fun b => b < w.heap.size) (trc I φ a x) us := by
              intro k
              induction k with
              | zero => exact fun _ => ⟨[], rfl, fun i x hx => by simp at hx⟩
              | succ k ihk =>
                intro hk
                obtain ⟨xs, hxl, hxs⟩ := ihk (by omega)
                obtain ⟨x, hx⟩ := each k (by omega)
                refine ⟨xs ++ [x], by simp [hxl], fun i y hy => ?_⟩
                by_cases hi : i < xs.length
                · rw [List.getElem?_append_left hi] at hy; exact hxs i y hy
                · rw [List.getElem?_append_right (by omega)] at hy
                  have hik : i = k := by
                    have := lt_of_get hy
                    simp at this; omega
                  subst hik
                  rw [hxl] at hy
                  simp only [Nat.sub_self, List.getElem?_cons_zero, Option.some.injEq] at hy
                  subst hy
                  exact hx
            exact this len (Nat.le_refl _)
          refine ⟨xs, ⟨?_, fun x hx => ?_⟩, ?_⟩
          · rw [hxl, ← hlen]
            exact Nat.le_trans (Nat.mul_le_mul_right _ (Nat.le_add_right _ _)) hbytes
          · obtain ⟨i, hi⟩ := List.getElem?_of_mem hx
            exact (hxs i x hi).1
          · refine reps_one ?_
            have hfit : ∀ y ∈ xs.map (fun x => one a (trc I φ a x)), Eng.Fits P e' y := by
              intro y hy
              obtain ⟨x, _, rfl⟩ := List.mem_map.1 hy
              exact fits_of_ty h3.symm h4.symm x
            by_cases hl0 : len = 0
            · subst hl0
              have : xs = [] := List.eq_nil_of_length_eq_zero hxl
              subst this
              exact .esl e' false ad cap
            · have hcell : ∀ i x, xs[i]? = some x → ∃ us : List Value, us.length = P.cellsOf e' ∧ (∀ j, j < P.cellsOf e' → w.cell? ((ad.add (i * P.cellsOf e')).add j) = us[j]?) ∧ Reps P w (fun b => b < w.heap.size) (trc I φ a x) us := by
                intro i x hx
                obtain ⟨_, us, hus, hr⟩ := hxs i x hx
                unfold World.cells? at hus
                rw [if_pos (Nat.zero_le _)] at hus
                exact ⟨us, by simpa using mapM_some_length hus, fun j hj => mapM_some_get hus j j (by simp [hj]), hr⟩
              obtain ⟨adb, ado, ads⟩ := ad
              have hspot : ads = none ∧ adb < w.heap.size := by
                obtain ⟨us, hus, hc, hr⟩ := hcell 0 xs[0] (List.getElem?_eq_getElem (by omega))
                have h6 := hc 0 (by omega)
                simp only [Nat.zero_mul, Addr.add, if_true] at h6
                have h7 : us[0]? = some us[0] := List.getElem?_eq_getElem (by omega)
                rw [h7] at h6
                refine ⟨?_, World.block_lt_of_cell? w _ h6⟩
                unfold World.cell? at h6
                split at h6
                · split at h6
                  · cases h6
                  · rename_i hs
                    simpa using hs
                · cases h6
              obtain ⟨rfl, hlt⟩ := hspot
              have hat : ∀ j t, (Eng.flat (xs.map fun x => one a (trc I φ a x)))[j]? = some t → ∃ u, w.cell? ⟨adb, ado + j, none⟩ = some u ∧ RepT P w (fun b => b < w.heap.size) t u := by
                intro j t hj
                obtain ⟨_, _, x, hi, ho⟩ := flat_at hfit hj
                have hjo : j = j / P.cellsOf e' * P.cellsOf e' + j % P.cellsOf e' := by rw [Nat.mul_comm]; exact (Nat.div_add_mod _ _).symm
                generalize j / P.cellsOf e' = i at hi hjo
                generalize j % P.cellsOf e' = o at ho hjo
                rw [List.getElem?_map, Option.map_eq_some_iff] at hi
                obtain ⟨x', hx', rfl⟩ := hi
                have ho : (trc I φ a x')[o]? = some t := by rw [← ho]; exact congrArg (·[o]?) (tr_cells (I := I) (φ := φ) a x').symm
                obtain ⟨us, hus, hc, hr⟩ := hcell i x' hx'
                obtain ⟨u, hu, hru⟩ := hr.2 o t ho
                have hol : o < P.cellsOf e' := by
                  have := lt_of_get hu
                  omega
                have h8 := hc o hol
                rw [hu, Eng.addr_add, Eng.addr_add, Nat.add_assoc, ← hjo] at h8
                exact ⟨u, h8, hru⟩
              have hlm : len = (xs.map fun x => one a (trc I φ a x)).length := by simp [hxl]
              rw [hlm]
              refine .sl e' false _ adb ado cap (fun j => (w.cell? ⟨adb, ado + j, none⟩).getD undef) (fun _ => hlt) hfit (by rw [← hlm]; exact hlc) (fun j t hj => ?_) fun j t hj => ?_
              · obtain ⟨u, hu, _⟩ := hat j t hj
                simp [hu]
              · obtain ⟨u, hu, hr⟩ := hat j t hj
                simp only [hu, Option.getD_some]
                exact hr
      · cases h
    | _ => cases h
end
end Go.Y
namespace Go.Y
open Go.Eng (T RepT RepM SRep Kept Base G SameOn VRep Split Live Free kn)
open Go.ChangeShapes Go.WideShapes Go.RowKit
variable {P : Program} {I : Ids} {φ : FnP}
def rdAll (P : Program) : List TypeId → List Ty → Bool
  | [], [] => true
  | t :: ts, A :: As => rdT P 24 t A && (P.readableRec t && (Nat.blt t P.types.size && (Eng.aggOf P t == A.isAgg && rdAll P ts As)))
  | _, _ => false
theorem cells_one {v : Value} {c : Value} (h : v.cells.toList = [c]) : v = c ∨ v = .agg #[c] := by
  cases v with
  | agg cs =>
    refine .inr ?_
    have h : cs.toList = [c] := h
    cases cs; simp_all
  | _ => simp_all [Value.cells]
theorem rd_value {H : Type} {enc : TypeId × Value → H} {w : World} {r : Reach} {b0 : Nat} {t : TypeId} {A : Ty} {v : Value} {x : A.den} (h : rdT P 24 t A = true) (hag : Eng.aggOf P t = A.isAgg) (hval : Value.okWide P w r b0 t v)
    {F : Nat → Prop} (hr : Reps P w F (trc I φ A x) v.cells.toList) : RepT P w F (tr I φ A x) v := by
  cases hA : A.isAgg with
  | true =>
    rw [tr_agg A hA]
    have hu : ∃ cs, v = .agg cs := by
      unfold Eng.aggOf at hag
      unfold Value.okWide at hval
      rw [hA] at hag
      split at hval
      · obtain ⟨cs, hv, _⟩ := hval; exact ⟨cs, hv⟩
      · obtain ⟨cs, hv, _⟩ := hval; exact ⟨cs, hv⟩
      · split at hag
        · simp_all
        · simp_all
        · cases hag
    obtain ⟨cs, rfl⟩ := hu
    refine .ag _ cs (fun j => cs.getD j undef) (by have := hr.1; simp [Value.cells] at this; exact this.symm) (fun j t hj => ?_) fun j t hj => ?_
    · obtain ⟨u, hu, _⟩ := hr.2 j t hj
      simp only [Value.cells, Array.getElem?_toList] at hu
      simp [hu]
    · obtain ⟨u, hu, hr'⟩ := hr.2 j t hj
      simp only [Value.cells, Array.getElem?_toList] at hu
      simpa [hu] using hr'
  | false =>
    have hs := tr_single (I := I) (φ := φ) A hA x
    rw [hs] at hr
    obtain ⟨u, hu, hr'⟩ := hr.2 0 _ rfl
    have hlen := hr.1
    have hcs : v.cells.toList = [u] := by
      cases hc : v.cells.toList with
      | nil => rw [hc] at hu; simp at hu
      | cons y ys =>
        rw [hc] at hu hlen
        cases ys with
        | nil => simp only [List.getElem?_cons_zero, Option.some.injEq] at hu; subst hu; rfl
        | cons z zs => simp at hlen
    rcases cells_one hcs with rfl | rfl
    · exact hr'
    · exfalso
      rw [hA] at hag
      unfold Value.okWide at hval
      unfold Eng.aggOf at hag
      split at hval
      · rename_i h1; rw [h1] at hag; cases hag
      · rename_i h1; rw [h1] at hag; cases hag
      · unfold Cell.okWide Cell.ok at hval
        simp only at hval
        split at hval <;> simp_all
theorem rd_args {H : Type} {enc : TypeId × Value → H} {w : World} {spare : Nat → Bool} {held : Bool} {r : Reach} {b0 : Nat} :
    ∀ (ts : List TypeId) (As : List Ty) (vs : List Value) (ds : List (DataW H)) (ps : List MemPlace), rdAll P ts As = true → DataW.TrodAll enc P w 0 spare held ts vs ds ps →
      (∀ (j : Nat) t v, ts[j]? = some t → vs[j]? = some v → Value.okWide P w r b0 t v) → (∀ m ∈ DataW.weightsEach P ts ds, m ≤ reachBytes) →
      ∃ ls : List L, ls.map (·.ty) = As ∧ (∀ l ∈ ls, Wf P.bytesOf l.ty l.val) ∧ vs.length = ls.length ∧ ds.length = ts.length ∧ ∀ (j : Nat) l, ls[j]? = some l → ∃ u, vs[j]? = some u ∧ RepT P w (fun b => b < w.heap.size) (trL I φ l) u
  | [], [], vs, ds, ps, _, h, _, _ => by
    cases vs <;> cases ds <;> simp_all [DataW.TrodAll]
  | t :: ts, A :: As, vs, ds, ps, h, hT, hval, hm => by
    simp only [rdAll, Bool.and_eq_true] at h
    obtain ⟨v, vs', d, ds', p, q, rfl, rfl, rfl, hd, hrest⟩ := trodAll_cons hT
    obtain ⟨fuel, hf⟩ := hd
    obtain ⟨x, hx1, hx2⟩ := rd_ok (I := I) (φ := φ) 24 t A h.1 fuel _ d p hf (fun m hm' => hm m (by simp only [DataW.weightsEach, List.mem_append]; exact .inl hm'))
    obtain ⟨ls, h1, h2, h3, h5, h4⟩ := rd_args ts As vs' ds' q h.2.2.2.2 hrest (fun j t v ht hv => hval (j + 1) t v (by simpa using ht) (by simpa using hv)) (fun m hm' => hm m (by simp only [DataW.weightsEach, List.mem_append]; exact .inr hm'))
    refine ⟨⟨A, x⟩ :: ls, by simp [h1], ?_, by simp [h3], by simp [h5], ?_⟩
    · intro l hl
      rcases List.mem_cons.1 hl with rfl | hl
      · exact hx1
      · exact h2 l hl
    · intro j l hj
      cases j with
      | zero =>
        simp only [List.getElem?_cons_zero, Option.some.injEq] at hj
        subst hj
        exact ⟨v, rfl, rd_value (enc := enc) h.1 (by simpa using h.2.2.2.1) (hval 0 t v rfl rfl) hx2⟩
      | succ j => exact h4 j l (by simpa using hj)
  | [], _ :: _, _, _, _, h, _, _, _ => by simp [rdAll] at h
  | _ :: _, [], _, _, _, h, _, _, _ => by simp [rdAll] at h
theorem rd_back {H : Type} {enc : TypeId × Value → H} {W W' : World} (hl : laidOutB P = true) (hb : Below W.heap.size W W') :
    ∀ (ts : List TypeId) (As : List Ty) (vs : List Value) (ds : List (DataW H)) (ps : List MemPlace), rdAll P ts As = true → DataW.TrodAll enc P W 0 (fun _ => true) true ts vs ds ps →
      DataW.TrodAll enc P W' 0 (fun b => decide (b < W.heap.size)) true ts vs ds ps
  | [], [], vs, ds, ps, _, h => by
    cases vs <;> cases ds <;> simp_all [DataW.TrodAll]
  | t :: ts, A :: As, vs, ds, ps, h, hT => by
    simp only [rdAll, Bool.and_eq_true] at h
    obtain ⟨v, vs', d, ds', p, q, rfl, rfl, rfl, hd, hrest⟩ := trodAll_cons hT
    refine ⟨p, q, Below.trod hl h.2.1 (by have := h.2.2.1; rwa [Nat.blt_eq] at this) hd hb ?_, rd_back hl hb ts As vs' ds' q h.2.2.2.2 hrest, rfl⟩
    obtain ⟨fuel, hf⟩ := hd
    exact DataW.trod_lt fuel _ _ _ hf
  | [], _ :: _, _, _, _, h, _ => by simp [rdAll] at h
  | _ :: _, [], _, _, _, h, _ => by simp [rdAll] at h
theorem tupL_wf (by_ : TypeId → Nat) : ∀ (vs : List L), (∀ l ∈ vs, Wf by_ l.ty l.val) → Wf by_ (tupL vs).ty (tupL vs).val
  | [], _ => trivial
  | [v], h => h v (by simp)
  | v :: w :: r, h => ⟨h v (by simp), tupL_wf by_ (w :: r) fun l hl => h l (by simp [hl])⟩
def boolOut : St Ty := ⟨[(0, .lf .bool)], [], []⟩
theorem law_calls {H : Type} {enc : TypeId × Value → H} {f : FuncId} {fn : Func} {s : ChangeSpec} {As : List Ty} {F : Nat → (tupTy As).den → Option Bool} {ins : St Ty}
    (hl : laidOutB P = true) (hrd : rdAll P fn.params.toList As = true) (hvars : s.vars = []) (hspec : ∀ ds : List (DataW H), ds.length = fn.params.toList.length → s.fn H ds = { results := [.lit (.bool true)], args := ds })
    (hres : ∃ t, fn.resultTypes = #[t] ∧ P.underlying t = some .bool) (hins : leafs ins = As)
    (hOk : ∀ N, FnOk P I φ f ⟨ins, boolOut, false⟩ ⟨tupTy As, .bool, F N⟩)
    (pure : ∀ x : (tupTy As).den, Wf P.bytesOf (tupTy As) x → ∃ N, F N x = some true)
    {W : World} {base : Nat} {args : Array Value} {ds gs : List (DataW H)} {before : List MemPlace}
    (hval : ∀ (j : Nat) t v, fn.params[j]? = some t → args[j]? = some v → Value.okWide P W .any base t v)
    (hW : DataW.Whole enc P fn.params.toList s.vars false W args.toList ds gs before)
    (hsz : (DataW.weightsEach P (fn.params.toList ++ s.plain.varTypes P) (ds ++ gs)).all (· ≤ reachBytes) = true) :
    Calls P f args W fun e W' => ∃ v, e = .returned v ∧ s.post enc P fn false true false false W args v W' := by
  have hW' := hW
  obtain ⟨p, q, hA, hV, rfl, hfz, hnd⟩ := hW
  rw [hvars] at hV
  obtain ⟨rfl, rfl⟩ := trodVars_none hV
  have hm : ∀ m ∈ DataW.weightsEach P fn.params.toList ds, m ≤ reachBytes := by
    intro m hm
    have hvt : s.plain.varTypes P = [] := by
      have : s.plain.vars = [] := hvars
      unfold DataSpec.varTypes
      rw [this]; rfl
    rw [hvt, List.append_nil, List.append_nil] at hsz
    simpa using List.all_eq_true.1 hsz m hm
  obtain ⟨ls, h1, h2, h3, h5, h4⟩ := rd_args (I := I) (φ := φ) fn.params.toList As args.toList ds p hrd hA (fun j t v ht hv => hval j t v (by simpa using ht) (by simpa using hv)) hm
  have hx : ∃ x, (tupL ls).as (tupTy As) = some x ∧ Wf P.bytesOf (tupTy As) x := by
    rw [← h1, ← tupL_ty]
    exact ⟨_, as_self _, tupL_wf _ ls h2⟩
  obtain ⟨x, hx1, hx2⟩ := hx
  obtain ⟨N, hN⟩ := pure x hx2
  refine ((hOk N).run x true hN ls hx1 (by rw [h1]; exact hins.symm) W (fun b => b < W.heap.size) args (fun b hb => hb) (by simpa using h3) (fun j l hj => by
    obtain ⟨u, hu, hr⟩ := h4 j l hj
    exact ⟨u, by simpa using hu, hr⟩)).mono fun e W' ⟨u, he, g', rs, hrs, hinv, hrep⟩ => ?_
  have hrs := hrs []
  have hrs : some [(⟨.bool, true⟩ : L)] = some rs := hrs
  simp only [Option.some.injEq] at hrs
  subst hrs
  have hu := hrep (.lf ⟨.bool, true⟩) rfl
  have hu := repB (arep_lf hu)
  subst hu
  have bel : Below W.heap.size W W' := ⟨hinv.k.os, hinv.k.tape, hinv.k.output, hinv.k.size, fun b hb => hinv.k.block b hb (fun h => h)⟩
  obtain ⟨t, ht1, ht2⟩ := hres
  have hsp := hspec ds h5
  refine ⟨_, he, ds, [], _, [], p, [], hW', ?_, ?_, ?_, bel.frame _, fun h => by cases h⟩
  · rw [List.append_nil, hsp, ht1]
    exact trodAll_mk1 (shut_bool ht2 _)
  · rw [List.append_nil, hsp]
    exact rd_back hl bel _ _ _ _ _ hrd hA
  · rw [List.append_nil, hsp, hvars]
    rfl
end Go.Y
namespace Go.Y
variable {α β ρ : Type}
theorem wr_i64 {n : Int} (h0 : -9223372036854775808 ≤ n) (h1 : n ≤ 9223372036854775807) : wr .i64 n = n := by
  show (if true && decide (n % (2 ^ 64 : Int) ≥ (2 ^ 63 : Int)) then n % (2 ^ 64 : Int) - (2 ^ 64 : Int) else n % (2 ^ 64 : Int)) = n
  simp only [Bool.true_and, decide_eq_true_eq]
  split <;> omega
theorem wr_u64_mod (n : Int) : wr .u64 n = n % 18446744073709551616 := rfl
theorem wr_u64 {n : Int} (h0 : 0 ≤ n) (h1 : n ≤ 18446744073709551615) : wr .u64 n = n := by rw [wr_u64_mod]; omega
theorem wr_u8_mod (n : Int) : wr .u8 n = n % 256 := rfl
theorem wr_u8 {n : Int} (h0 : 0 ≤ n) (h1 : n ≤ 255) : wr .u8 n = n := by rw [wr_u8_mod]; omega
theorem wr_succ {i m : Nat} (h : i < m) (hm : m ≤ 9223372036854775807) : wr .i64 ((i : Int) + 1) = ((i + 1 : Nat) : Int) := by
  rw [wr_i64 (by omega) (by omega)]; omega
@[simp] theorem pIf_t (a b : Option ρ) : pIf true a b = a := rfl
@[simp] theorem pIf_f (a b : Option ρ) : pIf false a b = b := rfl
@[simp] theorem pCk_t (k : Option ρ) : pCk true k = k := rfl
@[simp] theorem pCall_s (x : α) (k : α → Option ρ) : pCall (some x) k = k x := rfl
@[simp] theorem pCallG_t (d : α) (o : Option α) (k : α → Option ρ) : pCallG true d o k = pCall o k := rfl
@[simp] theorem pCallG_f (d : α) (o : Option α) (k : α → Option ρ) : pCallG false d o k = k d := rfl
@[simp] theorem pIdxG_t (d : α) (xs : List α) (i : Int) (k : α → Option ρ) : pIdxG true d xs i k = pIdx xs i k := rfl
@[simp] theorem pIdxG_f (d : α) (xs : List α) (i : Int) (k : α → Option ρ) : pIdxG false d xs i k = k d := rfl
@[simp] theorem pLet_ (a : α) (k : α → Option ρ) : pLet a k = k a := rfl
@[simp] theorem pJoin_ (k : α → Option ρ) (b : (α → Option ρ) → Option ρ) : pJoin k b = b k := rfl
@[simp] theorem pick_t (a b : α) : pick true a b = a := rfl
@[simp] theorem pick_f (a b : α) : pick false a b = b := rfl
theorem pick_and (a b : Bool) : pick a b false = (a && b) := by cases a <;> rfl
theorem pick_or (a b : Bool) : pick a true b = (a || b) := by cases a <;> rfl
@[simp] theorem len_ (xs : List α) : len xs = (xs.length : Int) := rfl
theorem ix_nat {xs : List α} {i : Nat} : ix xs (i : Int) = xs[i]? := by
  unfold ix
  rw [decide_eq_true (Int.natCast_nonneg i), Int.toNat_natCast]
theorem pIdx_nat {xs : List α} {i : Nat} {x : α} (h : xs[i]? = some x) (k : α → Option ρ) : pIdx xs (i : Int) k = k x := by
  unfold pIdx; rw [ix_nat, h]; rfl
theorem pIdx_lt {xs : List α} {i : Nat} (h : i < xs.length) (k : α → Option ρ) : pIdx xs (i : Int) k = k xs[i] :=
  pIdx_nat (List.getElem?_eq_getElem h) k
theorem pIdx_int {xs : List α} {i : Int} (h0 : 0 ≤ i) (h : i.toNat < xs.length) (k : α → Option ρ) : pIdx xs i k = k xs[i.toNat] := by
  have := pIdx_lt h k
  rwa [Int.toNat_of_nonneg h0] at this
theorem room_of {b : Nat} {n : Int} (h : n * b ≤ 140737488355328) (h1 : n ≤ 140737488355328) : room b n = true := by
  unfold room; rw [decide_eq_true h, decide_eq_true h1]; rfl
end Go.Y
namespace Go.Y
abbrev Val := Int × (Bool × Int) × (Int × Int) × Int
abbrev Stt := Bool × List Val × List (List Int)
def riseB (n : Int) : Int → List Int → Bool
  | _, [] => true
  | last, x :: r => decide (last < x) && (decide (x < n) && riseB n x r)
def setR (n : Int) (s : List Int) : Bool := decide (0 ≤ n) && (decide (n ≤ 4096) && riseB n (-1) s)
theorem bits_Right_loop (N : Nat) (k0 : Unit → Option Bool) (k1 : Bool → Option Bool) (n0 : Int) (s : List Int) (hs : s.length ≤ 4611686018427387904) :
    ∀ (n i : Nat) (last : Int), i ≤ s.length → s.length < n + i → bits_Right_l6 N k0 k1 n n0 last s s.length i = if riseB n0 last (s.drop i) then k0 () else k1 false := by
  intro n
  induction n with
  | zero => intro i last h1 h2; omega
  | succ n ih =>
    intro i last h1 h2
    unfold bits_Right_l6
    by_cases hi : i < s.length
    · rw [decide_eq_true (by omega), pIf_t, pIdx_lt hi, List.drop_eq_getElem_cons hi]
      simp only [pLet_, pick_or, riseB]
      by_cases h3 : s[i] ≤ last
      · simp [h3, show ¬ last < s[i] by omega]
      · by_cases h4 : n0 ≤ s[i]
        · simp [h3, h4, show ¬ s[i] < n0 by omega]
        · simp only [h3, h4, decide_false, Bool.or_self, pIf_f]
          rw [wr_succ hi (by omega), ih (i + 1) s[i] (by omega) (by omega)]
          simp [show last < s[i] by omega, show s[i] < n0 by omega]
    · have : i = s.length := by omega
      subst this
      simp [riseB]
theorem bits_Right_ok {N : Nat} {n : Int} {s : List Int} (hs : s.length ≤ 4611686018427387904) (hN : s.length < N) : bits_Right N n s = some (setR n s) := by
  unfold bits_Right
  simp only [pLet_, pick_or, len_]
  unfold setR
  by_cases h1 : n < 0
  · simp [h1, show ¬ 0 ≤ n by omega]
  · by_cases h2 : 4096 < n
    · simp [h2, show ¬ n ≤ 4096 by omega]
    · simp only [h1, h2, decide_false, Bool.or_self, pIf_f]
      rw [show (0 : Int) = ((0 : Nat) : Int) from rfl, bits_Right_loop N _ _ n s hs N 0 (-1) (by omega) (by omega)]
      simp only [List.drop_zero]
      cases riseB n (-1) s <;> simp <;> omega
theorem riseB_prev (n : Int) (l : List Int) : ∀ last, last < -1 → True := fun _ _ => trivial
theorem ref03_Right_loop (N : Nat) (k0 : Unit → Option Bool) (k1 : Bool → Option Bool) (n0 : Int) (s : List Int) (hs : s.length ≤ 4611686018427387904) :
    ∀ (n i : Nat) (last : Int), i ≤ s.length → s.length < n + i → -1 ≤ last → (i = 0 → last = -1) → (∀ j, i = j + 1 → s[j]? = some last) →
      avermentref03_Right_l5 N k0 k1 n n0 s i = if riseB n0 last (s.drop i) then k0 () else k1 false := by
  intro n
  induction n with
  | zero => intro i last h1 h2; omega
  | succ n ih =>
    intro i last h1 h2 h3 h4 h5
    unfold avermentref03_Right_l5
    by_cases hi : i < s.length
    · rw [len_, decide_eq_true (by omega), pIf_t, pIdx_lt hi, List.drop_eq_getElem_cons hi]
      have hgo : last < s[i] → s[i] < n0 → avermentref03_Right_l5 N k0 k1 n n0 s (wr .i64 (i + 1)) = if riseB n0 s[i] (s.drop (i + 1)) then k0 () else k1 false := by
        intro h6 h7
        rw [wr_succ hi (by omega)]
        exact ih (i + 1) s[i] (by omega) (by omega) (by omega) (by omega) (fun j hj => by obtain rfl : i = j := by omega
                                                                                          exact List.getElem?_eq_getElem hi)
      simp only [riseB, pick_or, pick_and, pLet_]
      by_cases hx : s[i] < 0
      · simp [hx, show ¬ last < s[i] by omega]
      · simp only [hx, decide_false, Bool.not_false, pIdxG_t, Bool.false_or]
        rw [pIdx_lt hi]
        by_cases hn : n0 ≤ s[i]
        · simp [hn, show ¬ s[i] < n0 by omega]
        · simp only [hn, decide_false, Bool.not_false, Bool.true_and, Bool.false_or]
          cases i with
          | zero =>
            have := h4 rfl
            subst this
            rw [hgo (by omega) (by omega)]
            simp only [show (-1 : Int) < s[0] by omega, show s[0] < n0 by omega, decide_true, Bool.true_and]
            rfl
          | succ j =>
            have hj := h5 j rfl
            rw [show decide ((0 : Int) < ((j + 1 : Nat) : Int)) = true by simp]
            simp only [pIdxG_t, Bool.true_and]
            rw [pIdx_lt hi, wr_i64 (by omega) (by omega), show (((j + 1 : Nat) : Int) - 1) = (j : Int) by omega, pIdx_nat hj]
            by_cases h8 : s[j + 1] ≤ last
            · simp [h8, show ¬ last < s[j + 1] by omega]
            · rw [hgo (by omega) (by omega)]
              simp [h8, show last < s[j + 1] by omega, show s[j + 1] < n0 by omega]
    · have : i = s.length := by omega
      subst this
      simp [riseB]
theorem ref03_Right_ok {N : Nat} {n : Int} {s : List Int} (hs : s.length ≤ 4611686018427387904) (hN : s.length < N) : avermentref03_Right N n s = some (setR n s) := by
  unfold avermentref03_Right
  simp only [pLet_, pick_or]
  unfold setR
  by_cases h1 : n < 0
  · simp [h1, show ¬ 0 ≤ n by omega]
  · by_cases h2 : 4096 < n
    · simp [h2, show ¬ n ≤ 4096 by omega]
    · simp only [h1, h2, decide_false, Bool.or_self, pIf_f]
      rw [show (0 : Int) = ((0 : Nat) : Int) from rfl, ref03_Right_loop N _ _ n s hs N 0 (-1) (by omega) (by omega) (by omega) (fun _ => rfl) (fun j hj => by omega)]
      simp only [List.drop_zero]
      cases riseB n (-1) s <;> simp <;> omega
def valR (v : Val) : Bool := decide (1 ≤ v.1) && (decide (v.1 ≤ 7) && ((v.2.1.1 || decide (v.2.1.2 = 0)) && (decide (v.2.2.1.1 ≤ v.2.2.1.2) && (decide (1 ≤ v.2.2.2) && decide (v.2.2.2 ≤ 3)))))
theorem fact_Right_ok (N : Nat) (v : Val) : fact_Right N v = some (valR v) := by
  obtain ⟨s, ⟨kb, kn⟩, ⟨lo, hi⟩, p⟩ := v
  unfold fact_Right sign_Right known_Right known_Known_tidy span_Right parity_Right valR
  simp only [pLet_, pick_and, pCall_s, pJoin_]
  by_cases h1 : 1 ≤ s <;> by_cases h2 : s ≤ 7 <;> cases kb <;> by_cases h3 : kn = 0 <;> by_cases h4 : lo ≤ hi <;> simp [h1, h2, h3, h4]
theorem ref12_Right_ok (N : Nat) (v : Val) : avermentref12_Right N v = some (valR v) := by
  obtain ⟨s, ⟨kb, kn⟩, ⟨lo, hi⟩, p⟩ := v
  unfold avermentref12_Right valR
  simp only [pLet_, pick_and, pick_or]
  simp only [Bool.and_assoc]
theorem IndexFunc_loop {α : Type} (L : Nat → (Unit → Option Int) → (Int → Option Int) → Nat → List α → (α → Option Bool) → Int → Int → Option Int)
    (h0 : ∀ N k0 k1 n s f t i, L N k0 k1 (n + 1) s f t i = pIf (decide (i < t)) (pIdx s i fun x0 => pCall (f x0) fun x1 => pIf x1 (k1 i) (L N k0 k1 n s f t (wr .i64 (i + 1)))) (k0 ()))
    (N : Nat) (k0 : Unit → Option Int) (k1 : Int → Option Int) (s : List α) (f : α → Option Bool) (p : α → Bool) (hf : ∀ x ∈ s, f x = some (p x)) (hs : s.length ≤ 4611686018427387904) :
    ∀ (n i : Nat), i ≤ s.length → s.length < n + i → L N k0 k1 n s f s.length i = match (s.drop i).findIdx? p with | some j => k1 ((i + j : Nat) : Int) | none => k0 () := by
  intro n
  induction n with
  | zero => intro i h1 h2; omega
  | succ n ih =>
    intro i h1 h2
    rw [h0]
    by_cases hi : i < s.length
    · rw [decide_eq_true (by omega), pIf_t, pIdx_lt hi, List.drop_eq_getElem_cons hi, hf _ (List.getElem_mem hi), pCall_s, List.findIdx?_cons]
      cases p s[i] with
      | true => simp
      | false =>
        rw [pIf_f, wr_succ hi (by omega), ih (i + 1) (by omega) (by omega)]
        cases (List.drop (i + 1) s).findIdx? p with
        | none => rfl
        | some j => simp; congr 1; omega
    · have : i = s.length := by omega
      subst this
      simp
theorem any_find {α : Type} (p : α → Bool) (s : List α) : s.any p = (s.findIdx? p).isSome := by
  induction s with
  | nil => rfl
  | cons x r ih =>
    rw [List.any_cons, ih, List.findIdx?_cons]
    cases p x <;> simp
theorem state_contains {N : Nat} {s : List Val} {f : Val → Option Bool} {p : Val → Bool} (hf : ∀ x ∈ s, f x = some (p x)) (hs : s.length ≤ 4611686018427387904) (hN : s.length < N) :
    slices_ContainsFunc_fact_Value_fact_Value N s f = some (s.any p) := by
  unfold slices_ContainsFunc_fact_Value_fact_Value slices_IndexFunc_fact_Value_fact_Value
  have := IndexFunc_loop slices_IndexFunc_fact_Value_fact_Value_l3 (fun N k0 k1 n s f t i => rfl) N (fun x0 => some (-1)) (fun x0 => some x0) s f p hf hs N 0 (by omega) (by omega)
  rw [len_, show (0 : Int) = ((0 : Nat) : Int) from rfl, this]
  rw [List.drop_zero]
  rw [any_find]
  cases s.findIdx? p with
  | none => rfl
  | some j => simp only [pCall_s]; rw [decide_eq_true (by omega)]; rfl
end Go.Y
namespace Go.Y
theorem told_ok (N : Nat) : avermentlaw13_told (N + 20) = some true := by rfl
def stR (s : Stt) (regs sites : Int) : Bool :=
  let r : Int := if s.1 then regs else 0
  decide ((s.2.1.length : Int) = r) && (decide ((s.2.2.length : Int) = r) && (s.2.2.all (setR sites) && s.2.1.all valR))
theorem state_Right_loop {N : Nat} (k0 : Stt → Option Bool) (k1 : Bool → Option Bool) (sites : Int) (l : List (List Int)) (s : Stt) (hl : l.length ≤ 4611686018427387904) (hs : ∀ x ∈ l, x.length ≤ 4611686018427387904 ∧ x.length < N) :
    ∀ (n i : Nat), i ≤ l.length → l.length < n + i → state_Right_l7 N k0 k1 n sites l l.length i s.1 s.2.1 s.2.2 = if (l.drop i).all (setR sites) then k0 s else k1 false := by
  intro n
  induction n with
  | zero => intro i h1 h2; omega
  | succ n ih =>
    intro i h1 h2
    unfold state_Right_l7
    by_cases hi : i < l.length
    · have hm := hs _ (List.getElem_mem hi)
      rw [decide_eq_true (by omega), pIf_t, pIdx_lt hi, List.drop_eq_getElem_cons hi, bits_Right_ok hm.1 hm.2, pCall_s, List.all_cons]
      cases setR sites l[i] with
      | false => rfl
      | true => rw [Bool.not_true, pIf_f, wr_succ hi (by omega), ih (i + 1) (by omega) (by omega)]; rfl
    · have : i = l.length := by omega
      subst this
      simp
theorem state_Right_1_ok (N : Nat) (v : Val) : state_Right_1 N v = some (!valR v) := by
  unfold state_Right_1
  rw [fact_Right_ok]; rfl
def SttLen (s : Stt) (N : Nat) : Prop := s.2.1.length < N ∧ s.2.2.length < N ∧ ∀ x ∈ s.2.2, x.length < N
theorem state_Right_ok {N : Nat} {s : Stt} {regs sites : Int} (h : SttLen s N) (hb : SttLen s 4611686018427387904) : state_Right N s regs sites = some (stR s regs sites) := by
  unfold state_Right
  simp only [pJoin_, pLet_, pick_or, len_]
  have key : ∀ r : Int, (pIf (!decide ((s.2.1.length : Int) = r) || !decide ((s.2.2.length : Int) = r)) (some false)
      (state_Right_l7 N (fun x2 => pCall (slices_ContainsFunc_fact_Value_fact_Value N x2.2.1 fun x => state_Right_1 N x) fun x3 => some (!x3)) (fun x2 => some x2) N sites s.2.2 s.2.2.length 0 s.1 s.2.1 s.2.2)) =
      some (decide ((s.2.1.length : Int) = r) && (decide ((s.2.2.length : Int) = r) && (s.2.2.all (setR sites) && s.2.1.all valR))) := by
    intro r
    by_cases h1 : (s.2.1.length : Int) = r
    · by_cases h2 : (s.2.2.length : Int) = r
      · simp only [h1, h2, decide_true, Bool.not_true, Bool.or_self, pIf_f, Bool.true_and]
        rw [show (0 : Int) = ((0 : Nat) : Int) from rfl, ← h2, state_Right_loop _ _ sites s.2.2 s (by have := hb.2.1; omega) (fun x hx => ⟨by have := hb.2.2 x hx; omega, h.2.2 x hx⟩) N 0 (by omega) (by have := h.2.1; omega)]
        rw [List.drop_zero]
        cases s.2.2.all (setR sites) with
        | false => rfl
        | true =>
          rw [if_pos rfl, state_contains (p := fun v => !valR v) (fun x _ => state_Right_1_ok N x) (by have := hb.1; omega) h.1, pCall_s, List.not_any_eq_all_not]
          simp
      · simp [h1, h2]
    · simp [h1]
  obtain ⟨re, vs, ss⟩ := s
  unfold stR
  cases re with
  | true => exact key regs
  | false => exact key 0
theorem ref13_Right_loop {N : Nat} (k0 : Unit → Option Bool) (k1 : Bool → Option Bool) (sites : Int) (s : Stt) (hl : s.2.1.length = s.2.2.length) (hb : SttLen s 4611686018427387904) (hs : ∀ x ∈ s.2.2, x.length < N) :
    ∀ (n i : Nat), i ≤ s.2.1.length → s.2.1.length < n + i → avermentref13_Right_l7 N k0 k1 n s.2.1.length sites i s.1 s.2.1 s.2.2 = if (s.2.2.drop i).all (setR sites) && (s.2.1.drop i).all valR then k0 () else k1 false := by
  intro n
  induction n with
  | zero => intro i h1 h2; omega
  | succ n ih =>
    intro i h1 h2
    unfold avermentref13_Right_l7
    by_cases hi : i < s.2.1.length
    · have hi2 : i < s.2.2.length := by omega
      have hm := hs _ (List.getElem_mem hi2)
      have hm2 := hb.2.2 _ (List.getElem_mem hi2)
      have hb1 := hb.1
      rw [decide_eq_true (by omega), pIf_t, pIdx_lt hi, List.drop_eq_getElem_cons hi, List.drop_eq_getElem_cons hi2, ref12_Right_ok, pCall_s, List.all_cons, List.all_cons]
      cases hv : valR s.2.1[i] with
      | false => simp [pick_or]
      | true =>
        simp only [Bool.not_true, Bool.not_false, pIdxG_t, pCallG_t, pLet_, pick_or, Bool.false_or, Bool.true_and]
        rw [pIdx_lt hi2, ref03_Right_ok (by omega) hm, pCall_s]
        cases setR sites s.2.2[i] with
        | false => simp
        | true =>
          rw [Bool.not_true, pIf_f, wr_succ hi (by omega), ih (i + 1) (by omega) (by omega), Bool.true_and]
    · have : i = s.2.1.length := by omega
      subst this
      rw [decide_eq_false (by omega), pIf_f, hl, List.drop_length, ← hl, List.drop_length]; rfl
theorem ref13_Right_ok {N : Nat} {s : Stt} {regs sites : Int} (h : SttLen s N) (hb : SttLen s 4611686018427387904) : avermentref13_Right N s regs sites = some (stR s regs sites) := by
  unfold avermentref13_Right stR
  obtain ⟨re, vs, ss⟩ := s
  cases re with
  | false =>
    simp only [Bool.not_false, pIf_t, pLet_, pick_and, len_, Bool.false_eq_true, if_false]
    cases vs with
    | cons a r => rw [decide_eq_false (by simp only [List.length_cons]; omega)]; rfl
    | nil =>
      cases ss with
      | nil => rfl
      | cons a r =>
        have : ¬ ((a :: r).length : Int) = 0 := by simp only [List.length_cons]; omega
        simp only [this, decide_false, Bool.and_false, Bool.false_and]
  | true =>
    simp only [Bool.not_true, pIf_f, pLet_, pick_or, len_, if_true]
    by_cases h1 : (vs.length : Int) = regs
    · by_cases h2 : (ss.length : Int) = regs
      · simp only [h1, h2, decide_true, Bool.not_true, Bool.or_self, pIf_f, Bool.true_and]
        rw [show (0 : Int) = ((0 : Nat) : Int) from rfl, ← h1]
        have := ref13_Right_loop (N := N) (fun x1 => some true) (fun x1 => some x1) sites (true, vs, ss) (by simp; omega) hb h.2.2 N 0 (by simp) (by have := h.1; simp at this ⊢; omega)
        rw [this]
        simp only [List.drop_zero]
        cases ss.all (setR sites) && vs.all valR <;> rfl
      · simp [h1, h2]
    · simp [h1]
end Go.Y
namespace Go.Y
def SttRoom (s : Stt) : Prop := s.2.1.length * 48 ≤ 140737488355328 ∧ s.2.2.length * 24 ≤ 140737488355328 ∧ ∀ x ∈ s.2.2, x.length * 8 ≤ 140737488355328
theorem law12_To_ok (N : Nat) (v : Val) : avermentlaw12_To N v = some v := rfl
theorem To_loop1 {N : Nat} (k0 : Bool × List Val × List (List Int) × Bool × List Val × List (List Int) × Bool × List Val × List (List Int) → Option Stt) (s t : Stt) (o0 : Bool) (o2 : List (List Int)) (h : SttRoom s) :
    ∀ (n i : Nat), i ≤ s.2.1.length → s.2.1.length < n + i → avermentlaw13_To_l4 N k0 n i s.1 s.2.1 s.2.2 t.1 t.2.1 t.2.2 o0 (s.2.1.take i) o2 = k0 (s.1, s.2.1, s.2.2, t.1, t.2.1, t.2.2, o0, s.2.1, o2) := by
  intro n
  induction n with
  | zero => intro i h1 h2; omega
  | succ n ih =>
    intro i h1 h2
    have hr := h.1
    unfold avermentlaw13_To_l4
    by_cases hi : i < s.2.1.length
    · rw [len_, decide_eq_true (by omega), pIf_t, pIdx_lt hi, law12_To_ok, pCall_s, room_of (by simp; omega) (by simp; omega), pCk_t, List.take_append_getElem hi, wr_succ hi (by omega), ih (i + 1) (by omega) (by omega)]
    · have : i = s.2.1.length := by omega
      subst this
      rw [len_, decide_eq_false (by omega), pIf_f, List.take_length]
theorem To_loop2 {N : Nat} (k0 : Bool × List Val × List (List Int) × Bool × List Val × List (List Int) → Option Stt) (s t : Stt) (o0 : Bool) (o1 : List Val) (h : SttRoom s) :
    ∀ (n i : Nat), i ≤ s.2.2.length → s.2.2.length < n + i → avermentlaw13_To_l8 N k0 n i s.1 s.2.1 s.2.2 t.1 t.2.1 t.2.2 o0 o1 (s.2.2.take i) = k0 (t.1, t.2.1, t.2.2, o0, o1, s.2.2) := by
  intro n
  induction n with
  | zero => intro i h1 h2; omega
  | succ n ih =>
    intro i h1 h2
    have hr := h.2.1
    unfold avermentlaw13_To_l8
    by_cases hi : i < s.2.2.length
    · have hx := h.2.2 _ (List.getElem_mem hi)
      rw [len_, decide_eq_true (by omega), pIf_t, pIdx_lt hi, List.nil_append, room_of (by simp; omega) (by simp; omega), pCk_t, room_of (by simp; omega) (by simp; omega), pCk_t, List.take_append_getElem hi, wr_succ hi (by omega), ih (i + 1) (by omega) (by omega)]
    · have : i = s.2.2.length := by omega
      subst this
      rw [len_, decide_eq_false (by omega), pIf_f, List.take_length]
theorem To_ok {N : Nat} {s : Stt} (h : SttLen s N) (hr : SttRoom s) : avermentlaw13_To N s = some s := by
  unfold avermentlaw13_To
  have h1 := To_loop1 (N := N) (fun x0 => avermentlaw13_To_l8 N (fun x1 => some (x1.2.2.2.1, x1.2.2.2.2.1, x1.2.2.2.2.2)) N 0 x0.1 x0.2.1 x0.2.2.1 x0.2.2.2.1 x0.2.2.2.2.1 x0.2.2.2.2.2.1 x0.2.2.2.2.2.2.1 x0.2.2.2.2.2.2.2.1 x0.2.2.2.2.2.2.2.2) s (false, [], []) s.1 [] hr N 0 (by omega) (by have := h.1; omega)
  have h2 := To_loop2 (N := N) (fun x1 => some (x1.2.2.2.1, x1.2.2.2.2.1, x1.2.2.2.2.2)) s (false, [], []) s.1 s.2.1 hr N 0 (by omega) (by have := h.2.1; omega)
  rw [List.take_zero] at h1 h2
  exact h1.trans h2
theorem Rise_in {N : Nat} (k0 : List Int × Int × Int × List Int → Option (List Int)) (l out : List Int) (i : Nat) (hi : i < l.length) (ho : out.length ≤ 4611686018427387904) :
    ∀ (n at_ : Nat), at_ ≤ out.length → out.length < n + at_ → (∀ j x, out[j]? = some x → j < at_ → x < l[i]) →
      ∃ a, a ≤ out.length ∧ (∀ j x, out[j]? = some x → j < a → x < l[i]) ∧ (∀ x, out[a]? = some x → l[i] ≤ x) ∧ avermentref04_Rise_l7 N k0 n l i at_ out = k0 (l, i, a, out) := by
  intro n
  induction n with
  | zero => intro a h1 h2; omega
  | succ n ih =>
    intro a h1 h2 h3
    unfold avermentref04_Rise_l7
    by_cases ha : a < out.length
    · simp only [len_, decide_eq_true (show ((a : Nat) : Int) < out.length by omega), decide_eq_true (show (0 : Int) ≤ (a : Nat) by omega), Bool.and_self, Bool.or_true, pCk_t, pIdxG_t, pick_t, pLet_]
      rw [pIdx_lt ha, pIdx_lt hi]
      by_cases hx : out[a] < l[i]
      · rw [decide_eq_true hx, pIf_t, wr_succ ha (by omega)]
        refine ih (a + 1) (by omega) (by omega) fun j x hj hja => ?_
        by_cases hje : j = a
        · subst hje
          rw [List.getElem?_eq_getElem ha, Option.some.injEq] at hj
          omega
        · exact h3 j x hj (by omega)
      · rw [decide_eq_false hx, pIf_f]
        exact ⟨a, h1, h3, fun x hx' => by rw [List.getElem?_eq_getElem ha, Option.some.injEq] at hx'; omega, rfl⟩
    · have : a = out.length := by omega
      subst this
      simp only [len_, Int.lt_irrefl, decide_false, Bool.not_false, Bool.true_or, pCk_t, pIdxG_f, pick_f, pLet_, pIf_f]
      exact ⟨_, h1, h3, fun x hx => by simp at hx, rfl⟩
def Inc (l : List Int) : Prop := l.Pairwise (· < ·)
theorem inc_insert {out : List Int} {v : Int} {a : Nat} (h : Inc out) (ha : a ≤ out.length) (h1 : ∀ j x, out[j]? = some x → j < a → x < v) (h2 : ∀ x, out[a]? = some x → v < x) : Inc (out.take a ++ [v] ++ out.drop a) := by
  have hall : ∀ x ∈ out.drop a, v < x := by
    intro x hx
    cases hd : out.drop a with
    | nil => rw [hd] at hx; simp at hx
    | cons y r =>
      have hy : out[a]? = some y := by
        have := List.head?_drop (l := out) (i := a)
        rw [hd] at this; simpa using this.symm
      have hvy := h2 y hy
      have hs : (out.drop a).Pairwise (· < ·) := h.sublist (List.drop_sublist a out)
      rw [hd] at hs hx
      rcases List.mem_cons.1 hx with rfl | hx
      · exact hvy
      · have := (List.pairwise_cons.1 hs).1 x hx
        omega
  have hlow : ∀ x ∈ out.take a, x < v := by
    intro x hx
    obtain ⟨j, hj⟩ := List.getElem?_of_mem hx
    rw [List.getElem?_take] at hj
    split at hj
    · exact h1 j x hj (by omega)
    · cases hj
  unfold Inc
  rw [List.append_assoc, List.singleton_append, List.pairwise_append]
  refine ⟨h.sublist (List.take_sublist a out), List.pairwise_cons.2 ⟨hall, h.sublist (List.drop_sublist a out)⟩, fun x hx y hy => ?_⟩
  rcases List.mem_cons.1 hy with rfl | hy
  · exact hlow x hx
  · have := hlow x hx
    have := hall y hy
    omega
theorem Rise_out {N : Nat} (k0 : List Int → Option (List Int)) (l : List Int) (hl : l.length * 8 ≤ 140737488355328) (hN : l.length < N) :
    ∀ (n i : Nat) (out : List Int), i ≤ l.length → l.length < n + i → out.length ≤ i → Inc out → (∀ x, x ∈ out ↔ x ∈ l.take i) →
      ∃ out', out'.length ≤ l.length ∧ Inc out' ∧ (∀ x, x ∈ out' ↔ x ∈ l) ∧ avermentref04_Rise_l4 N k0 n l i out = k0 out' := by
  intro n
  induction n with
  | zero => intro i out h1 h2; omega
  | succ n ih =>
    intro i out h1 h2 h3 h4 h5
    unfold avermentref04_Rise_l4
    by_cases hi : i < l.length
    · rw [len_, decide_eq_true (by omega), pIf_t, pJoin_]
      obtain ⟨a, ha, hlow, hhigh, he⟩ := Rise_in (N := N) (fun x1 => pCk (!(decide (x1.2.2.1 < (len x1.2.2.2))) || ((decide (0 ≤ x1.2.2.1)) && (decide (x1.2.2.1 < (len x1.2.2.2))))) <|
          pIdxG (decide (x1.2.2.1 < (len x1.2.2.2))) 0 x1.2.2.2 x1.2.2.1 fun x2 =>
          pIdxG (decide (x1.2.2.1 < (len x1.2.2.2))) 0 x1.1 x1.2.1 fun x3 =>
          pLet (pick (decide (x1.2.2.1 < (len x1.2.2.2))) (decide (x2 = x3)) false) fun x4 =>
          pIf x4
            (avermentref04_Rise_l4 N k0 n x1.1 (wr .i64 (x1.2.1 + 1)) x1.2.2.2)
            (pIdx x1.1 x1.2.1 fun x5 =>
            pCk ((decide (0 ≤ x1.2.2.1)) && (decide (x1.2.2.1 ≤ (len x1.2.2.2)))) <|
            pCk ((decide (0 ≤ 0)) && (decide (0 ≤ x1.2.2.1))) <|
            pCk (room 8 (len ([] ++ (sub x1.2.2.2 0 x1.2.2.1)))) <|
            pCk (room 8 (len (([] ++ (sub x1.2.2.2 0 x1.2.2.1)) ++ [x5]))) <|
            pCk ((decide (0 ≤ (len x1.2.2.2))) && (decide ((len x1.2.2.2) ≤ (len x1.2.2.2)))) <|
            pCk ((decide (0 ≤ x1.2.2.1)) && (decide (x1.2.2.1 ≤ (len x1.2.2.2)))) <|
            pCk (room 8 (len ((([] ++ (sub x1.2.2.2 0 x1.2.2.1)) ++ [x5]) ++ (sub x1.2.2.2 x1.2.2.1 (len x1.2.2.2))))) <|
            avermentref04_Rise_l4 N k0 n x1.1 (wr .i64 (x1.2.1 + 1)) ((([] ++ (sub x1.2.2.2 0 x1.2.2.1)) ++ [x5]) ++ (sub x1.2.2.2 x1.2.2.1 (len x1.2.2.2))))) l out i hi (by omega) N 0 (by omega) (by omega) (fun j x _ hj => by omega)
      refine Exists.imp (fun out' => And.imp_right (And.imp_right (And.imp_right (he.trans)))) ?_
      simp only [len_]
      have htk : l.take (i + 1) = l.take i ++ [l[i]] := (List.take_append_getElem hi).symm
      by_cases hav : out[a]? = some l[i]
      · have hal : a < out.length := (List.getElem?_eq_some_iff.1 hav).1
        rw [decide_eq_true (show ((a : Nat) : Int) < out.length by omega)]
        simp only [decide_eq_true (show (0 : Int) ≤ (a : Nat) by omega), Bool.and_self, Bool.or_true, pCk_t, pIdxG_t, pick_t, pLet_]
        rw [pIdx_nat hav, pIdx_lt hi, decide_eq_true rfl, pIf_t, wr_succ hi (by omega)]
        refine ih (i + 1) out (by omega) (by omega) (by omega) h4 fun x => ?_
        rw [htk, List.mem_append, List.mem_singleton, ← h5]
        exact ⟨.inl, fun h => h.elim id fun h => h ▸ List.mem_of_getElem? hav⟩
      · have hbr : ∀ r1 r2 : Option (List Int), (pCk (!(decide ((a : Int) < out.length)) || ((decide ((0 : Int) ≤ a)) && (decide ((a : Int) < out.length)))) <|
          pIdxG (decide ((a : Int) < out.length)) 0 out a fun x2 =>
          pIdxG (decide ((a : Int) < out.length)) 0 l i fun x3 =>
          pLet (pick (decide ((a : Int) < out.length)) (decide (x2 = x3)) false) fun x4 => pIf x4 r1 r2) = r2 := by
          intro r1 r2
          by_cases hal : a < out.length
          · rw [decide_eq_true (show ((a : Nat) : Int) < out.length by omega)]
            simp only [decide_eq_true (show (0 : Int) ≤ (a : Nat) by omega), Bool.and_self, Bool.or_true, pCk_t, pIdxG_t, pick_t, pLet_]
            rw [pIdx_lt hal, pIdx_lt hi, decide_eq_false (by intro he; apply hav; rw [← he]; exact List.getElem?_eq_getElem hal), pIf_f]
          · rw [decide_eq_false (show ¬ ((a : Nat) : Int) < out.length by omega)]
            rfl
        rw [hbr, pIdx_lt hi]
        have hs1 : sub out 0 a = out.take a := by unfold sub; simp
        have hs2 : sub out a out.length = out.drop a := by unfold sub; simp
        have hl3 : (out.take a ++ [l[i]] ++ out.drop a).length = out.length + 1 := by simp; omega
        simp only [hs1, hs2, List.nil_append]
        simp only [show (0 : Int) ≤ (a : Nat) by omega, show ((a : Nat) : Int) ≤ out.length by omega, show (0 : Int) ≤ 0 by omega, show (0 : Int) ≤ (out.length : Nat) by omega, show ((out.length : Nat) : Int) ≤ (out.length : Nat) by omega, decide_true, Bool.and_self, pCk_t]
        rw [room_of (by simp; omega) (by simp; omega), pCk_t, room_of (by simp; omega) (by simp; omega), pCk_t, hl3, room_of (by omega) (by omega), pCk_t, wr_succ hi (by omega)]
        refine ih (i + 1) _ (by omega) (by omega) (by omega) (inc_insert h4 ha hlow fun x hx => ?_) fun x => ?_
        · have := hhigh x hx
          have : x ≠ l[i] := fun e => hav (by rw [hx, e])
          omega
        · rw [htk]
          have : x ∈ out ↔ x ∈ out.take a ∨ x ∈ out.drop a := by rw [← List.mem_append, List.take_append_drop]
          simp only [List.mem_append, List.mem_singleton, ← h5, this]
          constructor
          · rintro ((h | h) | h)
            · exact .inl (.inl h)
            · exact .inr h
            · exact .inl (.inr h)
          · rintro ((h | h) | h)
            · exact .inl (.inl h)
            · exact .inr h
            · exact .inl (.inr h)
    · have : i = l.length := by omega
      subst this
      rw [len_, decide_eq_false (by omega), pIf_f]
      exact ⟨out, h3, h4, fun x => by rw [h5, List.take_length], rfl⟩
theorem Rise_ok {N : Nat} {l : List Int} (hl : l.length * 8 ≤ 140737488355328) (hN : l.length < N) : ∃ out, out.length ≤ l.length ∧ Inc out ∧ (∀ x, x ∈ out ↔ x ∈ l) ∧ avermentref04_Rise N l = some out := by
  unfold avermentref04_Rise
  exact Rise_out (N := N) (fun x0 => some x0) l hl hN N 0 [] (by omega) (by omega) (by simp) List.Pairwise.nil (by simp)
end Go.Y
