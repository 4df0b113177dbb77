/- Words for the law OptKnown: of the words that were printed for this seat, those that its texts use. Plain theorems and definitions. -/
set_option linter.unusedVariables false
set_option linter.unusedSimpArgs false
